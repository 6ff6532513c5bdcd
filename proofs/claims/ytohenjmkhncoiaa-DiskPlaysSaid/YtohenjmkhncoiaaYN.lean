/-
  Reading a snapshot. Condition: at most a million bytes.
-/
import Derived.Test.YtohenjmkhncoiaaYM
namespace Go.Proofs.Ytohenjmkhncoiaa
set_option linter.unusedSimpArgs false
set_option linter.unusedVariables false
open Go.RowKit

def hdS (kind pc f steps due : Int) (R C : Nat → Int) (rights : List Int) (data code : List ByteArray) (inputs outputs : List Int) (vr vd vc vi vo : SV) : Sp := ⟨kind, pc, f, steps, due, R, C, rights, data, code, inputs, outputs, vr, vd, vc, vi, vo⟩
/-- What reading a text answers. -/
def RdSn (t : ByteArray) (x : Sp × Int) : Prop := match readSn (bytesI t) with
  | some s => x.1.sn = s ∧ x.2 = 0
  | none => x = (zSp, 11)
theorem rdSn_bad {t : ByteArray} {y : Rd Sn} (h : RdOk pSn t false y) (hb : y.bad = true ∨ y.s ≠ ByteArray.empty) : RdSn t (zSp, 11) := by
  have : readSn (bytesI t) = none := by
    cases hr : readSn (bytesI t) with
    | none => rfl
    | some s =>
      exfalso
      unfold readSn at hr
      cases hp : pSn (bytesI t) with
      | none => rw [hp] at hr; simp at hr
      | some u =>
        obtain ⟨a, r⟩ := u
        obtain ⟨e1, e2, e3⟩ := h.good rfl a r hp
        rw [hp] at hr
        cases r with
        | cons b c => simp at hr
        | nil =>
          rcases hb with hb | hb
          · rw [e3] at hb; simp at hb
          · exact hb (bytesI_inj (e2.trans rfl))
  unfold RdSn
  rw [this]
theorem rdSn_good {t : ByteArray} {y : Rd Sn} {x : Sp} (h : RdOk pSn t false y) (h1 : y.bad = false) (h2 : y.s = ByteArray.empty) (hx : x.sn = y.a) : RdSn t (x, 0) := by
  have : readSn (bytesI t) = some y.a := by
    cases hp : pSn (bytesI t) with
    | none => rw [h.fail (.inr hp)] at h1; simp at h1
    | some u =>
      obtain ⟨a, r⟩ := u
      obtain ⟨e1, e2, e3⟩ := h.good rfl a r hp
      have hr : r = [] := by rw [← e2, h2]; rfl
      subst hr
      unfold readSn
      rw [hp, e1]
  unfold RdSn
  rw [this]
  exact ⟨hx, rfl⟩
theorem at_reg {k b : Nat} : some (Value.pointer (some (⟨b, 1 + 1 + k * 1, none⟩ : Addr))) = some (Value.pointer (some ⟨b, 2 + k, none⟩)) := by rw [show 1 + 1 + k * 1 = 2 + k by omega]
theorem at_creg {k b : Nat} : some (Value.pointer (some (⟨b, 1 + 18 + k * 1, none⟩ : Addr))) = some (Value.pointer (some ⟨b, 19 + k, none⟩)) := by rw [show 1 + 18 + k * 1 = 19 + k by omega]

set_option maxHeartbeats 4000000 in
set_option maxRecDepth 100000 in
theorem read_spec33 (t : ByteArray) (ht : t.size ≤ 1000000) :
    Spec Try.prog 33 [.string t] [] [] (X := Sp × Int) (fun x => RdSn t x) (fun x => .tuple #[snV x.1, .int .i64 x.2]) (fun _ => []) (fun x => [snA x.1]) := by
  refine r_enter Try.func33 rfl Try.ntmps33 rfl fun w0 M H => ?_
  refine r_seq ?_
  refine r_region ?_
  refine r_alloc t59 rfl rfl fun b2 => ?_
  refine r_p (p_assign rfl) rfl ?_
  refine r_nil ?_
  refine r_seq ?_
  refine r_region ?_
  refine r_p (p_move rfl) rfl ?_
  refine r_p (p_build (parts := [(0, .tmp 9)]) t113 pl113 rfl rfl) rfl ?_
  refine r_boxA rfl rfl fun b11 => ?_
  refine r_alloc t111 rfl rfl fun b4 => ?_
  refine r_store_row (k := 4) t111 rfl rfl rfl rfl rfl rfl rfl rfl ?_
  refine r_freeze 4 4 rfl (fun _ _ h => h) ?_
  refine r_nil ?_
  refine r_seq ?_
  refine r_region ?_
  refine r_p (p_build (parts := []) t59 pl59 rfl rfl) rfl ?_
  refine r_alloc t59 rfl rfl fun b5 => ?_
  refine r_store_all (k := 5) t59 rfl rfl rfl rfl rfl rfl ?_
  refine r_nil ?_
  refine r_seq ?_
  refine r_drawM [0, 1, 2, 3, 4, 5, 6, 7, 8, 9, 10, 11, 12, 13] [0, 1, 2, 3, 4, 5, 6, 7, 8, 9, 10, 11, 12, 13] [13, 14, 15, 16, 17, 18, 19, 20, 21, 22, 23] _ rfl rfl rfl (stg_mem (V := [(0, 13, _), (2, 15, _), (4, 17, _)]) [0, 2, 4] 1 [1, 0] [6] (fun x14 => [(6, 19, _)]) rfl rfl (prs_cons (pri rfl (p_load1 t111 rfl rfl (g_row1R (k := 4) rfl rfl))) (prs_cons (pri rfl (p_load1 t111 rfl rfl (g_row1R (k := 4) rfl rfl))) (prs_cons (pri rfl (p_load1 t111 rfl rfl (g_row1R (k := 4) rfl rfl))) prs_nil))) rfl rfl rfl rfl rfl rfl rfl rfl rfl rfl rfl (fun _ _ => rfl) rfl (ms_call (xs := [.tmp 13]) (int_spec b11 t false) cb52 [11] [] [11] [] rfl rfl rfl rfl rfl rfl rfl rfl (fun _ _ => rfl) (fun _ _ _ => rfl)) (fun x14 hx14 => stg_mem [6, 2, 4] 3 [3, 2, 1, 0] [] (fun x16 => []) rfl rfl (prs_cons (pri rfl (p_field0 fo59_0 rfl)) (prs_cons (pri rfl (p_load1 t111 rfl rfl (g_row1R (k := 4) rfl rfl))) (prs_cons (pri rfl (p_load1 t111 rfl rfl (g_row1R (k := 4) rfl rfl))) prs_nil))) rfl rfl rfl rfl rfl rfl rfl rfl rfl rfl rfl (fun _ _ => rfl) rfl (ms_call (xs := [.tmp 15]) (int_spec b11 x14.s x14.bad) cb52 [11] [] [11] [] rfl rfl rfl rfl rfl rfl rfl rfl (fun _ _ => rfl) (fun _ _ _ => rfl)) (fun x16 hx16 => stg_mem [6, 4] 5 [5, 4, 3, 2, 1, 0] [] (fun x18 => []) rfl rfl (prs_cons (pri rfl (p_field0 fo59_0 rfl)) (prs_cons (pri rfl (p_load1 t111 rfl rfl (g_row1R (k := 4) rfl rfl))) prs_nil)) rfl rfl rfl rfl rfl rfl rfl rfl rfl rfl rfl (fun _ _ => rfl) rfl (ms_call (xs := [.tmp 17]) (int_spec b11 x16.s x16.bad) cb52 [11] [] [11] [] rfl rfl rfl rfl rfl rfl rfl rfl (fun _ _ => rfl) (fun _ _ _ => rfl)) (fun x18 hx18 => stg_mem0 [6] 7 [7, 6, 5, 4, 3, 2, 1, 0] [8, 9] (fun _ => [(8, 20, _), (9, 21, _)]) rfl rfl (prs_cons (pri rfl (p_field0 fo59_0 rfl)) prs_nil) rfl rfl rfl rfl rfl rfl rfl rfl rfl (fun _ _ => rfl) rfl (ms_store_row (k := 5) t3 rfl rfl rfl rfl rfl rfl rfl rfl) (fun _ _ => stg_mem0 [8, 9] 10 [10, 9, 8, 7, 6, 5, 4, 3, 2, 1, 0] [11, 12] (fun _ => [(11, 22, _), (12, 23, _)]) rfl rfl (prs_cons (pri rfl (p_field0 fo59_1 rfl)) (prs_cons (pri rfl (p_field fo56_4 rfl)) prs_nil)) rfl rfl rfl rfl rfl rfl rfl rfl rfl (fun _ _ => rfl) rfl (ms_store_row (k := 5) t3 rfl rfl rfl rfl rfl rfl rfl rfl) (fun _ _ => stg_mem0 [11, 12] 13 [13, 12, 11, 10, 9, 8, 7, 6, 5, 4, 3, 2, 1, 0] [] (fun _ => []) rfl rfl (prs_cons (pri rfl (p_field0 fo59_1 rfl)) (prs_cons (pri rfl (p_field fo56_5 rfl)) prs_nil)) rfl rfl rfl rfl rfl rfl rfl rfl rfl (fun _ _ => rfl) rfl (ms_store_row (k := 5) t3 rfl rfl rfl rfl rfl rfl rfl rfl) (fun _ _ => stg_end [] rfl rfl prs_nil rfl rfl rfl ?_)))))))
  refine r_seq ?_
  refine r_drawM [0, 1, 2, 3, 4, 5, 6, 7, 8, 9] [0, 1, 2, 3, 4, 5, 6, 7, 8, 9] [24, 25, 26, 27, 28, 29, 30, 31] _ rfl rfl rfl (stg_mem (V := [(0, 24, _), (2, 26, _)]) [0, 2] 1 [1, 0] [4, 5] (fun x25 => [(4, 28, _), (5, 29, _)]) rfl rfl (prs_cons (pri rfl (p_load1 t111 rfl rfl (g_row1R (k := 4) rfl rfl))) (prs_cons (pri rfl (p_load1 t111 rfl rfl (g_row1R (k := 4) rfl rfl))) prs_nil)) rfl rfl rfl rfl rfl rfl rfl rfl rfl rfl rfl (fun _ _ => rfl) rfl (ms_call (xs := [.tmp 24]) (word_spec b11 x18.s x18.bad) cb53 [11] [] [11] [] rfl rfl rfl rfl rfl rfl rfl rfl (fun _ _ => rfl) (fun _ _ _ => rfl)) (fun x25 hx25 => stg_mem [4, 5, 2] 3 [3, 2, 1, 0] [] (fun x27 => []) rfl rfl (prs_cons (pri rfl (p_field0 fo59_1 rfl)) (prs_cons (pri rfl (p_field fo56_0 rfl)) (prs_cons (pri rfl (p_load1 t111 rfl rfl (g_row1R (k := 4) rfl rfl))) prs_nil))) rfl rfl rfl rfl rfl rfl rfl rfl rfl rfl rfl (fun _ _ => rfl) rfl (ms_call (xs := [.tmp 26]) (word_spec b11 x25.s x25.bad) cb53 [11] [] [11] [] rfl rfl rfl rfl rfl rfl rfl rfl (fun _ _ => rfl) (fun _ _ _ => rfl)) (fun x27 hx27 => stg_mem0 [4, 5] 6 [6, 5, 4, 3, 2, 1, 0] [7, 8] (fun _ => [(7, 30, _), (8, 31, _)]) rfl rfl (prs_cons (pri rfl (p_field0 fo59_1 rfl)) (prs_cons (pri rfl (p_field fo56_0 rfl)) prs_nil)) rfl rfl rfl rfl rfl rfl rfl rfl rfl (fun _ _ => rfl) rfl (ms_store_row (k := 5) t32 rfl rfl rfl rfl rfl rfl rfl rfl) (fun _ _ => stg_mem0 [7, 8] 9 [9, 8, 7, 6, 5, 4, 3, 2, 1, 0] [] (fun _ => []) rfl rfl (prs_cons (pri rfl (p_field0 fo59_1 rfl)) (prs_cons (pri rfl (p_field fo56_2 rfl)) prs_nil)) rfl rfl rfl rfl rfl rfl rfl rfl rfl (fun _ _ => rfl) rfl (ms_store_row (k := 5) t32 rfl rfl rfl rfl rfl rfl rfl rfl) (fun _ _ => stg_end [] rfl rfl prs_nil rfl rfl rfl ?_)))))
  refine r_seq ?_
  refine r_seq ?_
  refine r_region ?_
  refine r_p (p_move rfl) rfl ?_
  refine r_nil ?_
  refine r_block ?_
  refine r_loop (X := Nat × (Nat → Int) × ByteArray × Bool) (fun x => x.1 ≤ 16 ∧ RdOk (pWord.times x.1) x27.s x27.bad ⟨(List.range x.1).map x.2.1, x.2.2.1, x.2.2.2⟩) (fun x => [(2, .pointer (some ⟨b2, 0, none⟩)), (4, .pointer (some ⟨b4, 0, none⟩)), (5, .pointer (some ⟨b5, 0, none⟩)), (32, .int .i64 (x.1 : Int))]) (fun x => [(2, row b2 59 (snC zSp)), (5, row b5 59 (snC (hdS x14.a x25.a x27.a x16.a x18.a x.2.1 (fun _ => 0) [] [] [] [] [] nilS nilS nilS nilS nilS))), (11, row b11 113 (rdC x.2.2.1 x.2.2.2))]) (fun x => [(4, row b4 111 [.pointer (some ⟨b11, 0, none⟩)])]) (fun x => 16 - x.1) (0, fun _ => 0, x27.s, x27.bad) ⟨Nat.zero_le _, RdOk.nil⟩ rfl rfl rfl (fun x hx0 => ?_)
  obtain ⟨k, x⟩ := x
  obtain ⟨hk0, hrk⟩ := hx0
  dsimp only at hk0 hrk ⊢
  refine r_seq ?_
  refine r_region ?_
  refine r_p (p_bin rfl rfl b_lt) rfl ?_
  refine r_nil ?_
  refine r_seq ?_
  refine r_cond rfl (fun h1 => ?_) (fun h1 => ?_)
  · (try simp only [decide_eq_true_eq, decide_eq_false_iff_not, Bool.and_eq_true, Bool.or_eq_true, Bool.and_eq_false_iff, Bool.or_eq_false_iff, Bool.not_eq_true, Bool.not_eq_false, Bool.not_eq_true', Bool.not_eq_false', Bool.not_not, bne_iff_ne, beq_iff_eq] at h1)
    have hk : k < 16 := by omega
    refine r_skip ?_
    refine r_seq ?_
    refine r_block ?_
    refine r_seq ?_
    refine r_region ?_
    refine r_p (p_move rfl) rfl ?_
    refine r_p (p_assign rfl) rfl ?_
    refine r_nil ?_
    refine r_region ?_
    refine r_p (p_move rfl) rfl ?_
    refine r_p (p_load1 t111 rfl rfl (g_row1R (k := 4) rfl rfl)) rfl ?_
    refine r_call (xs := [.tmp 36]) (word_spec b11 x.2.1 x.2.2) cb53 [11] [] [11] [] rfl rfl rfl rfl rfl rfl rfl rfl (fun _ _ => rfl) (fun _ _ _ => rfl) rfl (fun y hy => ?_)
    refine r_p (p_field0 fo59_1 rfl) rfl ?_
    refine r_p (p_field fo56_1 rfl) rfl ?_
    refine r_p (p_idx_arr (j := k) Try.underlying53 t32 rfl rfl (by first | rfl | omega) (by omega)) rfl ?_
    refine r_store_row (k := 5) (o := 2 + k) (c' := snC ((hdS x14.a x25.a x27.a x16.a x18.a x.1 (fun _ => 0) [] [] [] [] [] nilS nilS nilS nilS nilS).setR k y.a)) t32 at_reg rfl rfl rfl rfl rfl (by rw [snC_len]; exact Nat.ble_eq_true_of_le (by show 2 + k + 1 ≤ 30; omega)) (snC_setR _ k _ hk) ?_
    refine r_nil ?_
    refine r_region ?_
    refine r_p (p_bin rfl rfl (b_add (by first | exact w_i64 (by omega) (by omega) | rfl))) rfl ?_
    refine r_p (p_move rfl) rfl ?_
    refine r_nil ?_
    refine r_here (k + 1, (fun i => if i = k then y.a else x.1 i), y.s, y.bad) ⟨⟨by dsimp only; omega, by dsimp only; rw [range_snoc]; exact hrk.snoc hy.1⟩, by dsimp only; omega⟩ rfl rfl rfl
  · (try simp only [decide_eq_true_eq, decide_eq_false_iff_not, Bool.and_eq_true, Bool.or_eq_true, Bool.and_eq_false_iff, Bool.or_eq_false_iff, Bool.not_eq_true, Bool.not_eq_false, Bool.not_eq_true', Bool.not_eq_false', Bool.not_not, bne_iff_ne, beq_iff_eq] at h1)
    have hk : k = 16 := by omega
    subst hk
    obtain ⟨Rf, Rs, Rb⟩ := x
    have hR := hrk
    dsimp only at hR ⊢
    refine r_exit ?_
    refine r_seq ?_
    refine r_seq ?_
    refine r_region ?_
    refine r_p (p_move rfl) rfl ?_
    refine r_nil ?_
    refine r_block ?_
    refine r_loop (X := Nat × (Nat → Int) × ByteArray × Bool) (fun x => x.1 ≤ 4 ∧ RdOk (pWord.times x.1) Rs Rb ⟨(List.range x.1).map x.2.1, x.2.2.1, x.2.2.2⟩) (fun x => [(2, .pointer (some ⟨b2, 0, none⟩)), (4, .pointer (some ⟨b4, 0, none⟩)), (5, .pointer (some ⟨b5, 0, none⟩)), (42, .int .i64 (x.1 : Int))]) (fun x => [(2, row b2 59 (snC zSp)), (5, row b5 59 (snC (hdS x14.a x25.a x27.a x16.a x18.a Rf x.2.1 [] [] [] [] [] nilS nilS nilS nilS nilS))), (11, row b11 113 (rdC x.2.2.1 x.2.2.2))]) (fun x => [(4, row b4 111 [.pointer (some ⟨b11, 0, none⟩)])]) (fun x => 4 - x.1) (0, fun _ => 0, Rs, Rb) ⟨Nat.zero_le _, RdOk.nil⟩ rfl rfl rfl (fun z hz0 => ?_)
    obtain ⟨k, z⟩ := z
    obtain ⟨hk0, hrk⟩ := hz0
    dsimp only at hk0 hrk ⊢
    refine r_seq ?_
    refine r_region ?_
    refine r_p (p_bin rfl rfl b_lt) rfl ?_
    refine r_nil ?_
    refine r_seq ?_
    refine r_cond rfl (fun h2 => ?_) (fun h2 => ?_)
    · (try simp only [decide_eq_true_eq, decide_eq_false_iff_not, Bool.and_eq_true, Bool.or_eq_true, Bool.and_eq_false_iff, Bool.or_eq_false_iff, Bool.not_eq_true, Bool.not_eq_false, Bool.not_eq_true', Bool.not_eq_false', Bool.not_not, bne_iff_ne, beq_iff_eq] at h2)
      have hk : k < 4 := by omega
      refine r_skip ?_
      refine r_seq ?_
      refine r_block ?_
      refine r_seq ?_
      refine r_region ?_
      refine r_p (p_move rfl) rfl ?_
      refine r_p (p_assign rfl) rfl ?_
      refine r_nil ?_
      refine r_region ?_
      refine r_p (p_move rfl) rfl ?_
      refine r_p (p_load1 t111 rfl rfl (g_row1R (k := 4) rfl rfl)) rfl ?_
      refine r_call (xs := [.tmp 46]) (word_spec b11 z.2.1 z.2.2) cb53 [11] [] [11] [] rfl rfl rfl rfl rfl rfl rfl rfl (fun _ _ => rfl) (fun _ _ _ => rfl) rfl (fun y hy => ?_)
      refine r_p (p_field0 fo59_1 rfl) rfl ?_
      refine r_p (p_field fo56_3 rfl) rfl ?_
      refine r_p (p_idx_arr (j := k) Try.underlying54 t32 rfl rfl (by first | rfl | omega) (by omega)) rfl ?_
      refine r_store_row (k := 5) (o := 19 + k) (c' := snC ((hdS x14.a x25.a x27.a x16.a x18.a Rf z.1 [] [] [] [] [] nilS nilS nilS nilS nilS).setC k y.a)) t32 at_creg rfl rfl rfl rfl rfl (by rw [snC_len]; exact Nat.ble_eq_true_of_le (by show 19 + k + 1 ≤ 30; omega)) (snC_setC _ k _ hk) ?_
      refine r_nil ?_
      refine r_region ?_
      refine r_p (p_bin rfl rfl (b_add (by first | exact w_i64 (by omega) (by omega) | rfl))) rfl ?_
      refine r_p (p_move rfl) rfl ?_
      refine r_nil ?_
      refine r_here (k + 1, (fun i => if i = k then y.a else z.1 i), y.s, y.bad) ⟨⟨by dsimp only; omega, by dsimp only; rw [range_snoc]; exact hrk.snoc hy.1⟩, by dsimp only; omega⟩ rfl rfl rfl
    · (try simp only [decide_eq_true_eq, decide_eq_false_iff_not, Bool.and_eq_true, Bool.or_eq_true, Bool.and_eq_false_iff, Bool.or_eq_false_iff, Bool.not_eq_true, Bool.not_eq_false, Bool.not_eq_true', Bool.not_eq_false', Bool.not_not, bne_iff_ne, beq_iff_eq] at h2)
      have hk : k = 4 := by omega
      subst hk
      obtain ⟨Cf, zs, zb⟩ := z
      have hC := hrk
      dsimp only at hC ⊢
      have hsm : zs.size ≤ 1000000 := by
        have a1 := hx14.1.small; have a2 := hx16.1.small; have a3 := hx18.1.small; have a4 := hx25.1.small; have a5 := hx27.1.small; have a6 := hR.small; have a7 := hC.small
        dsimp only at a1 a2 a3 a4 a5 a6 a7
        omega
      refine r_exit ?_
      refine r_seq ?_
      refine r_region ?_
      refine r_p (p_makeFunc (first := []) (cap := [.tmp 4]) rfl rfl) rfl ?_
      refine r_p (p_assign rfl) rfl ?_
      refine r_nil ?_
      refine r_seq ?_
      refine r_region ?_
      refine r_p (p_load1 t111 rfl rfl (g_row1R (k := 4) rfl rfl)) rfl ?_
      refine r_p (p_load1 t111 rfl rfl (g_row1R (k := 4) rfl rfl)) rfl ?_
      refine r_p (p_makeFunc (first := [.tmp 54]) (cap := []) rfl rfl) rfl ?_
      refine r_call (xs := [.tmp 53, .const (.int .i64 8), .tmp 55]) (list_int_spec b11 zs zb hsm) cb56 [11] [] [11, 56] [] rfl rfl rfl rfl rfl rfl rfl rfl (fun _ _ => rfl) (fun _ _ _ => rfl) rfl (fun l1 q1 => ?_)
      have hsm1 := q1.small
      dsimp only at hsm1
      refine r_p (p_field0 fo59_2 rfl) rfl ?_
      refine r_store_row (k := 5) t28 rfl rfl rfl rfl rfl rfl rfl rfl ?_
      refine r_nil ?_
      refine r_seq ?_
      refine r_region ?_
      refine r_p (p_load1 t111 rfl rfl (g_row1R (k := 4) rfl rfl)) rfl ?_
      refine r_p (p_move rfl) rfl ?_
      refine r_call (xs := [.tmp 58, .const (.int .i64 8), .tmp 59]) (list_text_spec b11 b4 l1.1.s l1.1.bad (by omega)) cb57 [11] [(false, 4)] [11, 60] [] rfl rfl rfl rfl rfl rfl rfl rfl (fun _ _ => rfl) (fun _ _ _ => rfl) rfl (fun l2 q2 => ?_)
      have hsm2 := q2.small
      dsimp only at hsm2
      refine r_p (p_field0 fo59_3 rfl) rfl ?_
      refine r_store_row (k := 5) t41 rfl rfl rfl rfl rfl rfl rfl rfl ?_
      refine r_nil ?_
      refine r_seq ?_
      refine r_region ?_
      refine r_p (p_load1 t111 rfl rfl (g_row1R (k := 4) rfl rfl)) rfl ?_
      refine r_p (p_move rfl) rfl ?_
      refine r_call (xs := [.tmp 62, .const (.int .i64 8), .tmp 63]) (list_text_spec b11 b4 l2.1.s l2.1.bad (by omega)) cb57 [11] [(false, 4)] [11, 64] [] rfl rfl rfl rfl rfl rfl rfl rfl (fun _ _ => rfl) (fun _ _ _ => rfl) rfl (fun l3 q3 => ?_)
      have hsm3 := q3.small
      dsimp only at hsm3
      refine r_p (p_field0 fo59_4 rfl) rfl ?_
      refine r_store_row (k := 5) t41 rfl rfl rfl rfl rfl rfl rfl rfl ?_
      refine r_nil ?_
      refine r_seq ?_
      refine r_region ?_
      refine r_p (p_load1 t111 rfl rfl (g_row1R (k := 4) rfl rfl)) rfl ?_
      refine r_p (p_load1 t111 rfl rfl (g_row1R (k := 4) rfl rfl)) rfl ?_
      refine r_p (p_makeFunc (first := [.tmp 67]) (cap := []) rfl rfl) rfl ?_
      refine r_call (xs := [.tmp 66, .const (.int .i64 4), .tmp 68]) (list_word_spec b11 l3.1.s l3.1.bad (by omega)) cb58 [11] [] [11, 69] [] rfl rfl rfl rfl rfl rfl rfl rfl (fun _ _ => rfl) (fun _ _ _ => rfl) rfl (fun l4 q4 => ?_)
      have hsm4 := q4.small
      dsimp only at hsm4
      refine r_p (p_field0 fo59_5 rfl) rfl ?_
      refine r_store_row (k := 5) t57 rfl rfl rfl rfl rfl rfl rfl rfl ?_
      refine r_nil ?_
      refine r_seq ?_
      refine r_region ?_
      refine r_p (p_load1 t111 rfl rfl (g_row1R (k := 4) rfl rfl)) rfl ?_
      refine r_p (p_load1 t111 rfl rfl (g_row1R (k := 4) rfl rfl)) rfl ?_
      refine r_p (p_makeFunc (first := [.tmp 72]) (cap := []) rfl rfl) rfl ?_
      refine r_call (xs := [.tmp 71, .const (.int .i64 4), .tmp 73]) (list_word_spec b11 l4.1.s l4.1.bad (by omega)) cb58 [11] [] [11, 74] [] rfl rfl rfl rfl rfl rfl rfl rfl (fun _ _ => rfl) (fun _ _ _ => rfl) rfl (fun l5 q5 => ?_)
      refine r_p (p_field0 fo59_6 rfl) rfl ?_
      refine r_store_row (k := 5) t57 rfl rfl rfl rfl rfl rfl rfl rfl ?_
      refine r_nil ?_
      refine r_seq ?_
      refine r_seq ?_
      refine r_region ?_
      refine r_p (p_load1 t111 rfl rfl (g_row1R (k := 4) rfl rfl)) rfl ?_
      refine r_p (p_nilCheck rfl) rfl ?_
      refine r_p (p_field0 fo113_1 rfl) rfl ?_
      refine r_p (p_load1 t4 rfl rfl (g_row1 (k := 11) rfl rfl)) rfl ?_
      refine r_p (p_move rfl) rfl ?_
      refine r_gp [] rfl rfl trivial (fun hg3 => p_load1 t111 rfl rfl (g_row1R (k := 4) rfl rfl)) rfl ?_
      refine r_gp [(81, _)] rfl rfl ⟨rfl, trivial⟩ (fun hg4 => p_nilCheck rfl) rfl ?_
      refine r_gp [(81, _), (82, _)] rfl rfl ⟨rfl, rfl, trivial⟩ (fun hg5 => p_field0 fo113_0 rfl) rfl ?_
      refine r_gp [(81, _), (82, _), (83, _)] rfl rfl ⟨rfl, rfl, rfl, trivial⟩ (fun hg6 => p_load1 t9 rfl rfl (g_row1 (k := 11) rfl rfl)) rfl ?_
      refine r_gp [(81, _), (82, _), (83, _), (84, _)] rfl rfl ⟨rfl, rfl, rfl, rfl, trivial⟩ (fun hg7 => p_bin rfl rfl b_sne) rfl ?_
      refine r_p (p_pick rfl rfl rfl (by first | exact pick_and | exact pick_or |  rfl)) rfl ?_
      refine r_nil ?_
      refine r_cond rfl (fun h8 => ?_) (fun h8 => ?_)
      · have hbad : l5.1.bad = true ∨ l5.1.s ≠ ⟨#[]⟩ := by
          rw [ba_eq] at h8
          simpa using h8
        refine r_seq ?_
        refine r_region ?_
        refine r_p (p_build (parts := []) t59 pl59 rfl rfl) rfl ?_
        refine r_store_all (k := 2) t59 rfl rfl rfl rfl rfl rfl ?_
        refine r_p (p_assign rfl) rfl ?_
        refine r_nil ?_
        refine r_cret ?_
        have hsn : RdOk pSn t false ⟨(hdS x14.a x25.a x27.a x16.a x18.a Rf Cf l1.1.a l2.1.a l3.1.a l4.1.a l5.1.a l1.2 l2.2 l3.2 l4.2 l5.2).sn, l5.1.s, l5.1.bad⟩ := ((hx14.1.both (hx16.1.both (hx18.1.both (hx25.1.both (hx27.1.both (hR.both (hC.both (q1.both (q2.both (q3.both (q4.both q5))))))))))).map Sn.of)
        refine r_addR 90 (A := snA zSp) (fun _ => snA_zero) ?_
        refine r_ret (zSp, 11) (rdSn_bad hsn hbad) rfl (rs2 (rv_cellA t59 rfl rfl rfl (g_all (k := 2) rfl)) (rv_tmp rfl)) rfl [] [90] rfl rfl rfl
      · have hok : l5.1.bad = false ∧ l5.1.s = ⟨#[]⟩ := by
          rw [ba_eq] at h8
          simpa using h8
        refine r_skip ?_
        refine r_seq ?_
        refine r_region ?_
        refine r_p (p_loadA t59 rfl rfl rfl (g_all (k := 5) rfl)) rfl ?_
        refine r_store_all (k := 2) t59 rfl rfl rfl rfl rfl rfl ?_
        refine r_p (p_assign rfl) rfl ?_
        refine r_nil ?_
        refine r_cret ?_
        have hsn : RdOk pSn t false ⟨(hdS x14.a x25.a x27.a x16.a x18.a Rf Cf l1.1.a l2.1.a l3.1.a l4.1.a l5.1.a l1.2 l2.2 l3.2 l4.2 l5.2).sn, l5.1.s, l5.1.bad⟩ := ((hx14.1.both (hx16.1.both (hx18.1.both (hx25.1.both (hx27.1.both (hR.both (hC.both (q1.both (q2.both (q3.both (q4.both q5))))))))))).map Sn.of)
        refine r_freeze 56 56 rfl own_to_sl ?_
        refine r_freeze 60 60 rfl own_to_sl ?_
        refine r_freeze 64 64 rfl own_to_sl ?_
        refine r_freeze 69 69 rfl own_to_sl ?_
        refine r_freeze 74 74 rfl own_to_sl ?_
        refine r_mkSn 56 60 64 69 74 90 (x := (hdS x14.a x25.a x27.a x16.a x18.a Rf Cf l1.1.a l2.1.a l3.1.a l4.1.a l5.1.a l1.2 l2.2 l3.2 l4.2 l5.2)) rfl rfl rfl rfl rfl ?_
        refine r_ret ((hdS x14.a x25.a x27.a x16.a x18.a Rf Cf l1.1.a l2.1.a l3.1.a l4.1.a l5.1.a l1.2 l2.2 l3.2 l4.2 l5.2), 0) (rdSn_good hsn hok.1 hok.2 rfl) rfl (rs2 (rv_cellA t59 rfl rfl rfl (g_all (k := 2) rfl)) (rv_tmp rfl)) rfl [] [90] rfl rfl rfl

end Go.Proofs.Ytohenjmkhncoiaa
