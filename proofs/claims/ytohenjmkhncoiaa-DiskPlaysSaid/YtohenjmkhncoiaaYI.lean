/-
  Writing numbers. Condition: not beyond a million bytes.
-/
import Derived.Test.YtohenjmkhncoiaaYH
import Derived.Test.YtohenjmkhncoiaaYE
namespace Go.Proofs.Ytohenjmkhncoiaa
set_option linter.unusedSimpArgs false
set_option linter.unusedVariables false
open Go.RowKit

theorem fm_snoc {α β : Type} (e : α → List β) (d : α) (l : List α) (k : Nat) (hk : k < l.length) : (l.take (k + 1)).flatMap e = (l.take k).flatMap e ++ e (l.getD k d) := by
  rw [List.take_add_one, List.flatMap_append, List.getElem?_eq_getElem hk]
  simp [List.getD_eq_getElem?_getD, List.getElem?_eq_getElem hk]
theorem fm_le {α β : Type} (e : α → List β) (l : List α) (k : Nat) : ((l.take k).flatMap e).length ≤ (l.flatMap e).length := by
  have : l.flatMap e = (l.take k).flatMap e ++ (l.drop k).flatMap e := by rw [← List.flatMap_append, List.take_append_drop]
  rw [this, List.length_append]
  omega
theorem fm_le2 {α β : Type} (e : α → List β) (d : α) (l : List α) (k : Nat) (hk : k < l.length) : ((l.take k).flatMap e).length + (e (l.getD k d)).length ≤ (l.flatMap e).length := by
  have := fm_le e l (k + 1)
  rw [fm_snoc e d l k hk, List.length_append] at this
  exact this
theorem fm_all {α β : Type} (e : α → List β) (l : List α) : (l.take l.length).flatMap e = l.flatMap e := by rw [List.take_length]
theorem u8_of {n : Int} (h : 0 ≤ n ∧ n < 256) : ((UInt8.ofNat n.toNat).toNat : Int) = n := by
  rw [UInt8.toNat_ofNat']
  omega
theorem bytesI_push (b : ByteArray) (c : UInt8) : bytesI (b.push c) = bytesI b ++ [(c.toNat : Int)] := by
  obtain ⟨⟨l⟩⟩ := b
  simp [bytesI, ByteArray.push]
theorem bytesI_ofI {l : List Int} (h : By l) : bytesI (ofI l) = l := by
  have : ∀ (l : List Int) (r : ByteArray), By l → bytesI (l.foldl (fun r n => r.push (UInt8.ofNat n.toNat)) r) = bytesI r ++ l := by
    intro l
    induction l with
    | nil => intro r _; simp
    | cons n l ih =>
      intro r hl
      rw [List.foldl_cons, ih _ (fun x hx => hl x (by simp [hx])), bytesI_push, u8_of (hl n (by simp))]
      simp
  have := this l ByteArray.empty h
  simpa [ofI, bytesI] using this
theorem By_bytesI (s : ByteArray) : By (bytesI s) := fun x hx => by
  unfold bytesI at hx
  obtain ⟨b, _, rfl⟩ := List.mem_map.1 hx
  have := b.toNat_lt
  omega
theorem ofI_bytesI (s : ByteArray) : ofI (bytesI s) = s := bytesI_inj (bytesI_ofI (By_bytesI s))
theorem By_put4 (n : Int) : By (put4 n) := fun x hx => by
  simp only [put4, List.mem_cons, List.not_mem_nil, or_false] at hx
  omega
theorem By_eInt (n : Int) : By (eInt n) := By.app.2 ⟨By_put4 _, By_put4 _⟩
theorem put4_len (n : Int) : (put4 n).length = 4 := rfl
theorem eInt_len (n : Int) : (eInt n).length = 8 := rfl
theorem ofI_inj {a b : List Int} (ha : By a) (hb : By b) (h : ofI a = ofI b) : a = b := by rw [← bytesI_ofI ha, ← bytesI_ofI hb, h]
theorem eInt_fm_len (ns : List Int) : (ns.flatMap eInt).length = 8 * ns.length := by
  induction ns with
  | nil => rfl
  | cons n ns ih => rw [List.flatMap_cons, List.length_append, ih, eInt_len, List.length_cons]; omega
theorem put4_fm_len (ns : List Int) : (ns.flatMap put4).length = 4 * ns.length := by
  induction ns with
  | nil => rfl
  | cons n ns ih => rw [List.flatMap_cons, List.length_append, ih, put4_len, List.length_cons]; omega

set_option maxHeartbeats 1000000 in
set_option maxRecDepth 100000 in
theorem ints_spec (W : Nat) (v u : SV) (l ns : List Int) (hm : l.length + 8 * ns.length ≤ 1000000) :
    Spec Try.prog 49 [.pointer (some ⟨W, 0, none⟩), sv u] [row W 107 [sv v], own 5 1 eU8 (sv v) l] [sl 1 eI (sv u) ns] (X := SV) (fun _ => True) (fun _ => .tuple #[]) (fun v' => [row W 107 [sv v'], own 5 1 eU8 (sv v') (l ++ ns.flatMap eInt)]) (fun _ => []) := by
  refine r_enter Try.func49 rfl Try.ntmps49 rfl fun w0 M H => ?_
  refine r_seq ?_
  refine r_region ?_
  refine r_p (p_move rfl) rfl ?_
  refine r_p (p_len_sl Try.underlying28 rfl (hs_sl (k := 0) rfl)) rfl ?_
  refine r_p (p_move rfl) rfl ?_
  refine r_nil ?_
  refine r_block ?_
  refine r_loop (X := Nat × SV) (fun x => x.1 ≤ ns.length) (fun x => [(0, .pointer (some ⟨W, 0, none⟩)), (6, sv u), (7, .int .i64 (ns.length : Int)), (8, .int .i64 (x.1 : Int))]) (fun x => [(0, row W 107 [sv x.2]), (1, own 5 1 eU8 (sv x.2) (l ++ (ns.take x.1).flatMap eInt))]) (fun x => [(0, sl 1 eI (sv u) ns)]) (fun x => ns.length - x.1) (0, v) (Nat.zero_le _) rfl (by rw [List.take_zero, List.flatMap_nil, List.append_nil]; rfl) rfl (fun x hk0 => ?_)
  obtain ⟨k, vk⟩ := x
  dsimp only at hk0 ⊢
  have hle : ((ns.take k).flatMap eInt).length = 8 * k := by rw [eInt_fm_len, List.length_take]; omega
  refine r_seq ?_
  refine r_region ?_
  refine r_p (p_bin rfl rfl b_lt) rfl ?_
  refine r_nil ?_
  refine r_seq ?_
  refine r_cond rfl (fun h1 => ?_) (fun h1 => ?_)
  · (try simp only [decide_eq_true_eq, decide_eq_false_iff_not, Bool.and_eq_true, Bool.or_eq_true, Bool.and_eq_false_iff, Bool.or_eq_false_iff, Bool.not_eq_true, Bool.not_eq_false, Bool.not_eq_true', Bool.not_eq_false', Bool.not_not, bne_iff_ne, beq_iff_eq] at h1)
    have hk : k < ns.length := by omega
    refine r_skip ?_
    refine r_seq ?_
    refine r_block ?_
    refine r_seq ?_
    refine r_region ?_
    refine r_p (p_idx_sl (j := k) Try.underlying28 t3 rfl rfl (hs_sl (k := 0) rfl) (by first | rfl | omega) (by first | omega | (simp; done) | (simp; omega))) rfl ?_
    refine r_p (p_load1 t3 rfl rfl (g_el' (hs_sl (k := 0) rfl) (by intro _; rfl) (getD_get 0 (by omega)) (by rfl))) rfl ?_
    refine r_p (p_assign rfl) rfl ?_
    refine r_nil ?_
    refine r_seq ?_
    refine r_draw [12, 13, 14, 15, 16, 17, 18, 19, 20, 21, 22] _ rfl (stg_mem (V := [(0, 12, _), (1, 13, _), (2, 14, _), (3, 15, _), (4, 16, _), (5, 17, _), (6, 18, _)]) [0, 1, 2, 3, 4, 5, 6] 7 [7, 6, 5] [] (fun _ => []) rfl rfl (prs_cons (pri rfl (p_move rfl)) (prs_cons (pri rfl (p_move rfl)) (prs_cons (pri rfl (p_nilCheck rfl)) (prs_cons (pri rfl (p_field0 fo107_0 rfl)) (prs_cons (pri rfl (p_load1 t95 rfl rfl (g_row1 (k := 0) rfl rfl))) (prs_cons (pri rfl (p_move rfl)) (prs_cons (pri rfl (p_conv Try.underlying3 Try.underlying32 rfl (by first | exact w_u32 (by omega) (by omega) | rfl))) prs_nil))))))) rfl rfl rfl rfl rfl rfl rfl rfl rfl rfl rfl (fun _ _ => rfl) rfl (ms_call (xs := [.tmp 18, .const (.int .i64 4)]) (put_spec (IntKind.u32.wrap (ns.getD k 0)) (wrap_u32_bd _)) cb66 [] [] [] [] rfl rfl rfl rfl rfl rfl rfl rfl (fun _ _ => rfl) (fun _ _ _ => rfl)) (fun _ _ => stg_mem [0, 1, 2, 3, 4] 8 [8, 7, 6, 5, 4, 3, 2, 1] [9, 10] (fun v20 => [(9, 21, _), (10, 22, _)]) rfl rfl (prs_cons (pri rfl (p_move rfl)) (prs_cons (pri rfl (p_move rfl)) (prs_cons (pri rfl (p_nilCheck rfl)) (prs_cons (pri rfl (p_field0 fo107_0 rfl)) (prs_cons (pri rfl (p_load1 t95 rfl rfl (g_row1 (k := 0) rfl rfl))) prs_nil))))) rfl rfl rfl rfl rfl rfl rfl rfl rfl rfl rfl (fun _ _ => rfl) rfl (ms_appendS 1 Try.underlying95 Try.underlying9 t5 rfl rfl rfl rfl (by rw [ofI_size, put4_len, List.length_append]; omega)) (fun v20 _ => stg_mem0 [9, 10, 0] 11 [11, 10, 9, 8, 7, 6, 5, 4, 3, 2, 1, 0] [] (fun _ => []) rfl rfl (prs_cons (pri rfl (p_nilCheck rfl)) (prs_cons (pri rfl (p_field0 fo107_0 rfl)) (prs_cons (pri rfl (p_move rfl)) prs_nil))) rfl rfl rfl rfl rfl rfl rfl rfl rfl (fun _ _ => rfl) rfl (ms_store_row (k := 0) t95 rfl rfl rfl rfl rfl rfl rfl rfl) (fun _ _ => stg_end [] rfl rfl prs_nil rfl rfl rfl ?_))))
    refine r_draw [23, 24, 25, 26, 27, 28, 29, 30, 31, 32, 33, 34] _ rfl (stg_mem (V := [(0, 23, _), (1, 24, _), (2, 25, _), (3, 26, _), (4, 27, _), (5, 28, _), (6, 29, _), (7, 30, _)]) [0, 1, 2, 3, 4, 5, 6, 7] 8 [8, 7, 6, 5] [] (fun _ => []) rfl rfl (prs_cons (pri rfl (p_move rfl)) (prs_cons (pri rfl (p_move rfl)) (prs_cons (pri rfl (p_nilCheck rfl)) (prs_cons (pri rfl (p_field0 fo107_0 rfl)) (prs_cons (pri rfl (p_load1 t95 rfl rfl (g_row1 (k := 0) rfl rfl))) (prs_cons (pri rfl (p_move rfl)) (prs_cons (pri rfl (p_bin rfl rfl (b_shr (by omega) (by first | decide | (simp [IntKind.bits]; omega)) rfl))) (prs_cons (pri rfl (p_conv Try.underlying3 Try.underlying32 rfl (by first | exact w_u32 (by omega) (by omega) | rfl))) prs_nil)))))))) rfl rfl rfl rfl rfl rfl rfl rfl rfl rfl rfl (fun _ _ => rfl) rfl (ms_call (xs := [.tmp 30, .const (.int .i64 4)]) (put_spec (IntKind.u32.wrap ((ns.getD k 0) / 2 ^ (32 : Int).toNat)) (wrap_u32_bd _)) cb66 [] [] [] [] rfl rfl rfl rfl rfl rfl rfl rfl (fun _ _ => rfl) (fun _ _ _ => rfl)) (fun _ _ => stg_mem [0, 1, 2, 3, 4] 9 [9, 8, 7, 6, 5, 4, 3, 2, 1] [10, 11] (fun v32 => [(10, 33, _), (11, 34, _)]) rfl rfl (prs_cons (pri rfl (p_move rfl)) (prs_cons (pri rfl (p_move rfl)) (prs_cons (pri rfl (p_nilCheck rfl)) (prs_cons (pri rfl (p_field0 fo107_0 rfl)) (prs_cons (pri rfl (p_load1 t95 rfl rfl (g_row1 (k := 0) rfl rfl))) prs_nil))))) rfl rfl rfl rfl rfl rfl rfl rfl rfl rfl rfl (fun _ _ => rfl) rfl (ms_appendS 1 Try.underlying95 Try.underlying9 t5 rfl rfl rfl rfl (by rw [bytesI_ofI (By_put4 _), ofI_size, put4_len, List.length_append, List.length_append, put4_len]; omega)) (fun v32 _ => stg_mem0 [10, 11, 0] 12 [12, 11, 10, 9, 8, 7, 6, 5, 4, 3, 2, 1, 0] [] (fun _ => []) rfl rfl (prs_cons (pri rfl (p_nilCheck rfl)) (prs_cons (pri rfl (p_field0 fo107_0 rfl)) (prs_cons (pri rfl (p_move rfl)) prs_nil))) rfl rfl rfl rfl rfl rfl rfl rfl rfl (fun _ _ => rfl) rfl (ms_store_row (k := 0) t95 rfl rfl rfl rfl rfl rfl rfl rfl) (fun _ _ => stg_end [] rfl rfl prs_nil rfl rfl rfl ?_))))
    refine r_region ?_
    refine r_p (p_bin rfl rfl (b_add (by first | exact w_i64 (by omega) (by omega) | rfl))) rfl ?_
    refine r_p (p_move rfl) rfl ?_
    refine r_nil ?_
    refine r_here (k + 1, v32) ⟨by dsimp only; omega, by dsimp only; omega⟩ rfl (by rw [fm_snoc eInt 0 ns k hk, ← List.append_assoc, show eInt (ns.getD k 0) = put4 (IntKind.u32.wrap (ns.getD k 0)) ++ put4 (IntKind.u32.wrap (ns.getD k 0 / 2 ^ (32 : Int).toNat)) from rfl, ← List.append_assoc, bytesI_ofI (By_put4 _), bytesI_ofI (By_put4 _)]; rfl) rfl
  · (try simp only [decide_eq_true_eq, decide_eq_false_iff_not, Bool.and_eq_true, Bool.or_eq_true, Bool.and_eq_false_iff, Bool.or_eq_false_iff, Bool.not_eq_true, Bool.not_eq_false, Bool.not_eq_true', Bool.not_eq_false', Bool.not_not, bne_iff_ne, beq_iff_eq] at h1)
    have hk : k = ns.length := by omega
    subst hk
    refine r_exit ?_
    refine r_end vk trivial rfl rs0 rfl [0, 1] [] rfl (by rw [fm_all]; rfl) rfl
set_option maxHeartbeats 1000000 in
set_option maxRecDepth 100000 in
theorem wwords_spec (W : Nat) (v u : SV) (l ns : List Int) (hm : l.length + 4 * ns.length ≤ 1000000) (hw : ∀ j, j < ns.length → okW (ns.getD j 0)) :
    Spec Try.prog 50 [.pointer (some ⟨W, 0, none⟩), sv u] [row W 107 [sv v], own 5 1 eU8 (sv v) l] [sl 1 eU (sv u) ns] (X := SV) (fun _ => True) (fun _ => .tuple #[]) (fun v' => [row W 107 [sv v'], own 5 1 eU8 (sv v') (l ++ ns.flatMap put4)]) (fun _ => []) := by
  refine r_enter Try.func50 rfl Try.ntmps50 rfl fun w0 M H => ?_
  refine r_seq ?_
  refine r_region ?_
  refine r_p (p_move rfl) rfl ?_
  refine r_p (p_len_sl Try.underlying57 rfl (hs_sl (k := 0) rfl)) rfl ?_
  refine r_p (p_move rfl) rfl ?_
  refine r_nil ?_
  refine r_block ?_
  refine r_loop (X := Nat × SV) (fun x => x.1 ≤ ns.length) (fun x => [(0, .pointer (some ⟨W, 0, none⟩)), (6, sv u), (7, .int .i64 (ns.length : Int)), (8, .int .i64 (x.1 : Int))]) (fun x => [(0, row W 107 [sv x.2]), (1, own 5 1 eU8 (sv x.2) (l ++ (ns.take x.1).flatMap put4))]) (fun x => [(0, sl 1 eU (sv u) ns)]) (fun x => ns.length - x.1) (0, v) (Nat.zero_le _) rfl (by rw [List.take_zero, List.flatMap_nil, List.append_nil]; rfl) rfl (fun x hk0 => ?_)
  obtain ⟨k, vk⟩ := x
  dsimp only at hk0 ⊢
  have hle : ((ns.take k).flatMap put4).length = 4 * k := by rw [put4_fm_len, List.length_take]; omega
  refine r_seq ?_
  refine r_region ?_
  refine r_p (p_bin rfl rfl b_lt) rfl ?_
  refine r_nil ?_
  refine r_seq ?_
  refine r_cond rfl (fun h1 => ?_) (fun h1 => ?_)
  · (try simp only [decide_eq_true_eq, decide_eq_false_iff_not, Bool.and_eq_true, Bool.or_eq_true, Bool.and_eq_false_iff, Bool.or_eq_false_iff, Bool.not_eq_true, Bool.not_eq_false, Bool.not_eq_true', Bool.not_eq_false', Bool.not_not, bne_iff_ne, beq_iff_eq] at h1)
    have hk : k < ns.length := by omega
    have hwk := hw k hk
    refine r_skip ?_
    refine r_seq ?_
    refine r_block ?_
    refine r_seq ?_
    refine r_region ?_
    refine r_p (p_idx_sl (j := k) Try.underlying57 t32 rfl rfl (hs_sl (k := 0) rfl) (by first | rfl | omega) (by first | omega | (simp; done) | (simp; omega))) rfl ?_
    refine r_p (p_load1 t32 rfl rfl (g_el' (hs_sl (k := 0) rfl) (by intro _; rfl) (getD_get 0 (by omega)) (by rfl))) rfl ?_
    refine r_p (p_assign rfl) rfl ?_
    refine r_nil ?_
    refine r_draw [12, 13, 14, 15, 16, 17, 18, 19, 20, 21] _ rfl (stg_mem (V := [(0, 12, _), (1, 13, _), (2, 14, _), (3, 15, _), (4, 16, _), (5, 17, _)]) [0, 1, 2, 3, 4, 5] 6 [6, 5] [] (fun _ => []) rfl rfl (prs_cons (pri rfl (p_move rfl)) (prs_cons (pri rfl (p_move rfl)) (prs_cons (pri rfl (p_nilCheck rfl)) (prs_cons (pri rfl (p_field0 fo107_0 rfl)) (prs_cons (pri rfl (p_load1 t95 rfl rfl (g_row1 (k := 0) rfl rfl))) (prs_cons (pri rfl (p_move rfl)) prs_nil)))))) rfl rfl rfl rfl rfl rfl rfl rfl rfl rfl rfl (fun _ _ => rfl) rfl (ms_call (xs := [.tmp 17, .const (.int .i64 4)]) (put_spec (ns.getD k 0) hwk) cb66 [] [] [] [] rfl rfl rfl rfl rfl rfl rfl rfl (fun _ _ => rfl) (fun _ _ _ => rfl)) (fun _ _ => stg_mem [0, 1, 2, 3, 4] 7 [7, 6, 5, 4, 3, 2, 1] [8, 9] (fun v19 => [(8, 20, _), (9, 21, _)]) rfl rfl (prs_cons (pri rfl (p_move rfl)) (prs_cons (pri rfl (p_move rfl)) (prs_cons (pri rfl (p_nilCheck rfl)) (prs_cons (pri rfl (p_field0 fo107_0 rfl)) (prs_cons (pri rfl (p_load1 t95 rfl rfl (g_row1 (k := 0) rfl rfl))) prs_nil))))) rfl rfl rfl rfl rfl rfl rfl rfl rfl rfl rfl (fun _ _ => rfl) rfl (ms_appendS 1 Try.underlying95 Try.underlying9 t5 rfl rfl rfl rfl (by rw [ofI_size, put4_len, List.length_append]; omega)) (fun v19 _ => stg_mem0 [8, 9, 0] 10 [10, 9, 8, 7, 6, 5, 4, 3, 2, 1, 0] [] (fun _ => []) rfl rfl (prs_cons (pri rfl (p_nilCheck rfl)) (prs_cons (pri rfl (p_field0 fo107_0 rfl)) (prs_cons (pri rfl (p_move rfl)) prs_nil))) rfl rfl rfl rfl rfl rfl rfl rfl rfl (fun _ _ => rfl) rfl (ms_store_row (k := 0) t95 rfl rfl rfl rfl rfl rfl rfl rfl) (fun _ _ => stg_end [] rfl rfl prs_nil rfl rfl rfl ?_))))
    refine r_region ?_
    refine r_p (p_bin rfl rfl (b_add (by first | exact w_i64 (by omega) (by omega) | rfl))) rfl ?_
    refine r_p (p_move rfl) rfl ?_
    refine r_nil ?_
    refine r_here (k + 1, v19) ⟨by dsimp only; omega, by dsimp only; omega⟩ rfl (by rw [fm_snoc put4 0 ns k hk, ← List.append_assoc, bytesI_ofI (By_put4 _)]; rfl) rfl
  · (try simp only [decide_eq_true_eq, decide_eq_false_iff_not, Bool.and_eq_true, Bool.or_eq_true, Bool.and_eq_false_iff, Bool.or_eq_false_iff, Bool.not_eq_true, Bool.not_eq_false, Bool.not_eq_true', Bool.not_eq_false', Bool.not_not, bne_iff_ne, beq_iff_eq] at h1)
    have hk : k = ns.length := by omega
    subst hk
    refine r_exit ?_
    refine r_end vk trivial rfl rs0 rfl [0, 1] [] rfl (by rw [fm_all]; rfl) rfl

end Go.Proofs.Ytohenjmkhncoiaa
