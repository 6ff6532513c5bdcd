/-
  The walk of an expression. Condition: the state is one that an execution reaches.
-/
import Derived.Test.YtdcbbkpdlcojfaaA8
namespace Go.Proofs.Ytdcbbkpdlcojfaa
set_option linter.unusedSimpArgs false
set_option linter.unusedVariables false
open Go.RowKit

theorem evK_nil {g : Nat} {fs : List Tf} {d : Nat} {vs : Vs} {acc : List Int} {s : Ms} {rk : Re (List Int)} (h : evK g fs d vs acc [] s = some rk) : rk = .ok acc s := by
  cases g with
  | zero => simp [evK] at h
  | succ g =>
    simp only [evK, Option.some.injEq] at h
    exact h.symm
theorem evK_cons {g : Nat} {fs : List Tf} {d : Nat} {vs : Vs} {acc : List Int} {t : Tx} {r : List Tx} {s : Ms} {rk : Re (List Int)} (h : evK g fs d vs acc (t :: r) s = some rk) :
    ∃ g2 rx, g = g2 + 1 ∧ evX g2 fs d vs t s = some rx ∧ (∀ z, rx = .err z → rk = .err z) ∧ ∀ v s1, rx = .ok v s1 → evK g2 fs d vs (acc ++ [v]) r s1 = some rk := by
  cases g with
  | zero => simp [evK] at h
  | succ g =>
    unfold evK at h
    cases hx : evX g fs d vs t s with
    | none => rw [hx] at h; simp at h
    | some rx =>
      rw [hx] at h
      refine ⟨g, rx, rfl, hx, fun z hz => ?_, fun v s1 hv => ?_⟩
      · subst hz
        exact (Option.some.inj h).symm
      · subst hv
        exact h
theorem all_snoc {l : List Int} (h : ∀ a ∈ l, oW a) {v : Int} (hv : oW v) : ∀ a ∈ l ++ [v], oW a := fun a ha => by
  rcases List.mem_append.1 ha with ha | ha
  · exact h a ha
  · rw [List.mem_singleton.1 ha]; exact hv
theorem drop_kid {α : Type} {l : List α} {i : Nat} {k : α} (h : l[i]? = some k) : l.drop i = k :: l.drop (i + 1) := by
  obtain ⟨hi, hk⟩ := List.getElem?_eq_some_iff.1 h
  rw [List.drop_eq_getElem_cons hi, hk]
theorem vget_val (vs : Vs) (x : ByteArray) : ((vs.find? (fun p => decide (Prod.fst p = x))).map vU).getD (.int .u32 0) = .int .u32 (vget vs x) := by
  unfold vget
  cases vs.find? (fun p => decide (Prod.fst p = x)) <;> rfl
theorem VX_kids {fs : List Tf} {t : Tx} (h : VX fs t) : VXs fs t.kids := by cases t; exact h.2.2.2.2.2.2
theorem VX_len {fs : List Tf} {t : Tx} (h : VX fs t) : t.kids.length ≤ 1000000 := by cases t; exact h.2.1
theorem VX_mem {fs : List Tf} {t : Tx} (h : VX fs t) (hk : t.kind = 4) : 1 ≤ t.kids.length := by cases t; exact h.2.2.1 hk
theorem VX_un {fs : List Tf} {t : Tx} (h : VX fs t) (hk : t.kind = 6) : 1 ≤ t.kids.length ∧ ∀ a, (unF t.name a).isSome = true := by cases t; exact h.2.2.2.1 hk
theorem VX_bi {fs : List Tf} {t : Tx} (h : VX fs t) (hk : t.kind = 7) : 2 ≤ t.kids.length ∧ ∀ a b, (biF t.name a b).isSome = true := by cases t; exact h.2.2.2.2.1 hk
theorem VX_call {fs : List Tf} {t : Tx} (h : VX fs t) (h1 : ¬ t.kind = 1) (h2 : ¬ t.kind = 2) (h4 : ¬ t.kind = 4) (h5 : ¬ t.kind = 5) (h6 : ¬ t.kind = 6) (h7 : ¬ t.kind = 7) : ∃ f, ffind fs t.name = some f ∧ t.kids.length ≤ f.ps.length := by cases t; exact h.2.2.2.2.2.1 h1 h2 h4 h5 h6 h7
/-- The state of the loop over the parts of an expression. -/
structure Xk where
  i : Nat
  g : Nat
  acc : List Int
  s : Ms
  vo : SV
  va : SV

set_option maxHeartbeats 16000000 in
set_option maxRecDepth 100000 in
theorem expr_ok (e : En) (g : Nat) (hF : VF e.fs) (ihX : ∀ k, k ≤ g → HX e k) (ihC : ∀ k, k ≤ g → HC e k) (t : Tx) (d vb : Nat) (vs : Vs) (s : Ms) (vo : SV) (r : Re Int) (ht : VX e.fs t) (hd : d ≤ 12) (hs : Sk e vs s) (hr : evX (g + 1) e.fs d vs t s = some r) (hfu : ¬ s.fuel ≤ 0) :
    SpecE Try.prog 100 [.pointer (some ⟨e.m, 0, none⟩), xV t, .map (some vb)] [row e.m 92 (mR e s vo d false 0), own 22 1 eU (sv vo) s.out] (mp mkS Prod.fst vU (some vb) vs :: txsA t.v t.kids :: RO e) (X := Oc Int) (fun o => o.fits r) (fun o => oX o) (fun o => lX e d o) (fun _ => []) := by
  refine r_enterE Try.func100 rfl Try.ntmps100 rfl fun w0 M H => ?_
  unfold evX at hr
  rw [if_neg hfu] at hr
  obtain ⟨s1, hs1⟩ : ∃ s1 : Ms, ({ s with fuel := s.fuel - 1 } : Ms) = s1 := ⟨_, rfl⟩
  have hp := Kp.pay hs.ok hfu
  have hmR : mC e.mf e.mu e.mb (itv e.vin (e.ins.length - s.inp.length)) vo s.mem (s.fuel - 1) (d : Int) false 0 = mR e s1 vo d false 0 := by rw [← hs1]; rfl
  have hso : s.out = s1.out := by rw [← hs1]
  rw [hs1] at hr hp
  have h51 := hs.kp hp
  obtain ⟨rk, hk⟩ : ∃ rk, evK g e.fs d vs [] t.kids s1 = some rk := by
    cases h : evK g e.fs d vs [] t.kids s1 with
    | none => rw [h] at hr; simp at hr
    | some q => exact ⟨q, rfl⟩
  rw [hk] at hr
  have htk := VX_kids ht
  have htl := VX_len ht
  refine r_more 1 7 rfl txs_sl ?_
  refine r_seq ?_
  refine r_region ?_
  refine r_boxA rfl rfl fun b4 => ?_
  refine r_p (p_assign rfl) rfl ?_
  refine r_nil ?_
  refine r_seq ?_
  refine r_region ?_
  refine r_p (p_move rfl) rfl ?_
  refine r_call (xs := [.tmp 11]) (pay_ok e.m e.mf e.mu e.mb (itv e.vin (e.ins.length - s.inp.length)) vo s.mem s.fuel (d : Int) false 0 hfu hs.ok.fuel) cb99 [0] [] [0] [] rfl rfl rfl rfl rfl rfl rfl rfl (fun _ _ => rfl) (fun _ _ _ => rfl) rfl (fun _ _ => ?_)
  rw [hmR]
  refine r_nilown 90 (α := Int) (S := 22) (s := 1) (enc := eU) ?_
  refine r_nil ?_
  refine r_seq ?_
  refine r_region ?_
  refine r_p (p_assign rfl) rfl ?_
  refine r_nil ?_
  refine r_seq ?_
  refine r_seq ?_
  refine r_region ?_
  refine r_p (p_field0 fo57_3 rfl) rfl ?_
  refine r_p (p_load1 t51 rfl rfl (g_row1 (k := 4) rfl rfl)) rfl ?_
  refine r_p (p_len_sl Try.underlying51 rfl (hs_sl (k := 7) rfl)) rfl ?_
  refine r_p (p_move rfl) rfl ?_
  refine r_nil ?_
  refine r_block ?_
  refine r_loop (X := Xk) (fun x => x.i ≤ t.kids.length ∧ x.g ≤ g ∧ x.acc.length = x.i ∧ (∀ a ∈ x.acc, oW a) ∧ Sk e vs x.s ∧ evK x.g e.fs d vs x.acc (t.kids.drop x.i) x.s = some rk) (fun x => [(0, .pointer (some ⟨e.m, 0, none⟩)), (2, .map (some vb)), (4, .pointer (some ⟨b4, 0, none⟩)), (7, sv x.va), (14, sv t.v), (15, .int .i64 (t.kids.length : Int)), (16, .int .i64 (x.i : Int))]) (fun x => [(0, row e.m 92 (mR e x.s x.vo d false 0)), (1, own 22 1 eU (sv x.vo) x.s.out), (4, row b4 57 (eTx t)), (90, own 22 1 eU (sv x.va) x.acc)]) (fun x => [(0, mp mkS Prod.fst vU (some vb) vs), (1, txsA t.v t.kids), (2, fnsA e.fs), (3, mp mkS Tf.name tfV (some e.mf) e.fs), (4, mp mkS Prod.fst vF (some e.mu) uL), (5, mp mkS Prod.fst vF (some e.mb) bL), (6, sl 1 eU (sv e.vin) e.ins), (7, sl 4 eTx (sv t.v) t.kids)]) (fun x => t.kids.length - x.i) ⟨0, g, [], s1, vo, nilS⟩ ⟨Nat.zero_le _, Nat.le_refl _, rfl, by simp, h51, hk⟩ rfl (by rw [hso]; rfl) rfl (fun x hx0 => ?_)
  obtain ⟨i, gx, acc, sx, vox, va⟩ := x
  obtain ⟨n1, n2, n3, n4, n5, n6⟩ := hx0
  dsimp only at n1 n2 n3 n4 n5 n6 ⊢
  refine r_seq ?_
  refine r_region ?_
  refine r_p (p_bin rfl rfl b_lt) rfl ?_
  refine r_nil ?_
  refine r_seq ?_
  refine r_cond rfl (fun h1 => ?_) (fun h1 => ?_)
  · (try simp only [decide_eq_true_eq, decide_eq_false_iff_not, Bool.and_eq_true, Bool.or_eq_true, Bool.and_eq_false_iff, Bool.or_eq_false_iff, Bool.not_eq_true, Bool.not_eq_false, Bool.not_eq_true', Bool.not_eq_false', Bool.not_not, bne_iff_ne, beq_iff_eq] at h1)
    have hi : i < t.kids.length := by omega
    obtain ⟨kid, hkid⟩ : ∃ k, t.kids[i]? = some k := ⟨_, List.getElem?_eq_getElem hi⟩
    rw [drop_kid hkid] at n6
    obtain ⟨g2, rx, rfl, hx, hre, hro⟩ := evK_cons n6
    have hkm := List.mem_of_getElem? hkid
    have hvk := htk.mem kid hkm
    refine r_skip ?_
    refine r_seq ?_
    refine r_block ?_
    refine r_seq ?_
    refine r_region ?_
    refine r_p (p_idx_sl (j := i) Try.underlying51 t57 rfl rfl (hs_sl (k := 7) rfl) (by first | rfl | omega) (by first | omega | (simp; done) | (simp; omega))) rfl ?_
    refine r_p (p_loadA t57 rfl rfl rfl (g_el' (hs_sl (k := 7) rfl) (by intro _; rfl) hkid (by rfl))) rfl ?_
    refine r_alloc t57 rfl rfl fun b9 => ?_
    refine r_store_all (k := 9) t57 rfl rfl rfl rfl rfl rfl ?_
    refine r_nil ?_
    refine r_region ?_
    refine r_p (p_move rfl) rfl ?_
    refine r_p (p_move rfl) rfl ?_
    refine r_p (p_loadA t57 rfl rfl rfl (g_all (k := 9) rfl)) rfl ?_
    refine r_p (p_move rfl) rfl ?_
    refine r_more 1 8 rfl (txs_kid hkm) ?_
    refine r_callE (xs := [.tmp 21, .tmp 22, .tmp 23]) (ihX g2 (by omega) kid d vb vs sx vox rx hvk hd n5 hx) cb100 [0, 1] [(false, 0), (false, 8), (false, 2), (false, 3), (false, 4), (false, 5), (false, 6)] [0, 1] [] rfl rfl rfl rfl rfl rfl rfl rfl (fun o _ => lX_len o) (fun _ _ _ => rfl) rfl (fun o ho => ?_)
    rcases o with ⟨v, s2, vo2⟩ | ⟨z, c, vo2, l⟩
    rotate_left
    · refine aft_pan ?_
      have hz : rx = .err z := ho
      have hq : rk = .err z := hre z hz
      subst hq
      show At _ _ _ _ _ _ _ (bodyPost Try.prog Try.f100 _ (.panic _))
      refine r_out (Oc.er z c vo2 l) (Option.some.inj hr).symm rfl [0, 1] [] rfl rfl rfl
    refine aft_ret ?_
    have hz : rx = .ok v s2 := ho
    have hq := hro v s2 hz
    rw [hz] at hx
    obtain ⟨hv1, hv2⟩ := (ev_ok hF g2).x d vs kid sx v s2 hvk n5.v n5.ok hx
    have h5b := n5.kp hv2
    refine r_bslice1 eU _ Try.underlying35 t22 rfl (by decide) (by decide) rfl rfl rfl rfl fun v25 => ?_
    refine r_append 90 Try.underlying35 t22 rfl (by decide) (fun _ => rfl) (fun _ => rfl) rfl rfl rfl (hs_own (k := 25) rfl) (by first | omega | (simp; done) | (simp; omega)) (by unfold maxLen; first | omega | (simp; done) | (simp; omega)) rfl fun v26 => ?_
    refine r_p (p_assign rfl) rfl ?_
    refine r_nil ?_
    refine r_region ?_
    refine r_p (p_bin rfl rfl (b_add (by first | exact w_i64 (by omega) (by omega) | rfl))) rfl ?_
    refine r_p (p_move rfl) rfl ?_
    refine r_nil ?_
    refine r_here ⟨i + 1, g2, acc ++ [v], s2, vo2, v26⟩ ⟨⟨by dsimp only; omega, by dsimp only; omega, by dsimp only; rw [List.length_append, List.length_singleton]; omega, all_snoc n4 hv1, h5b, hq⟩, by dsimp only; omega⟩ rfl rfl rfl
  · (try simp only [decide_eq_true_eq, decide_eq_false_iff_not, Bool.and_eq_true, Bool.or_eq_true, Bool.and_eq_false_iff, Bool.or_eq_false_iff, Bool.not_eq_true, Bool.not_eq_false, Bool.not_eq_true', Bool.not_eq_false', Bool.not_not, bne_iff_ne, beq_iff_eq] at h1)
    have hi : i = t.kids.length := by omega
    rw [List.drop_of_length_le (by omega)] at n6
    have hq := evK_nil n6
    subst hq
    dsimp only at hr
    have h7 := getD_oW n4 0
    refine r_exit ?_
    refine r_seq ?_
    refine r_seq ?_
    refine r_region ?_
    refine r_p (p_field0 fo57_0 rfl) rfl ?_
    refine r_p (p_load1 t3 rfl rfl (g_row1 (k := 4) rfl rfl)) rfl ?_
    refine r_nil ?_
    refine r_block ?_
    refine r_seq ?_
    refine r_region ?_
    refine r_p (p_bin rfl rfl b_eq) rfl ?_
    refine r_p (p_assign rfl) rfl ?_
    refine r_nil ?_
    refine r_cond rfl (fun h2 => ?_) (fun h2 => ?_)
    · have q1 : t.kind = 1 := of_decide_eq_true h2
      rw [if_pos q1] at hr
      refine r_seq ?_
      refine r_region ?_
      refine r_p (p_field0 fo57_1 rfl) rfl ?_
      refine r_p (p_load1 t22 rfl rfl (g_row1 (k := 4) rfl rfl)) rfl ?_
      refine r_p (p_assign rfl) rfl ?_
      refine r_nil ?_
      refine r_cret ?_
      refine r_retE (Oc.ok t.n sx vox) (Option.some.inj hr).symm rfl (rs1 (rv_tmp rfl)) rfl [0, 1] [] rfl rfl rfl
    · have q1 : ¬ t.kind = 1 := of_decide_eq_false h2
      rw [if_neg q1] at hr
      refine r_seq ?_
      refine r_region ?_
      refine r_p (p_bin rfl rfl b_eq) rfl ?_
      refine r_p (p_assign rfl) rfl ?_
      refine r_nil ?_
      refine r_cond rfl (fun h3 => ?_) (fun h3 => ?_)
      · have q2 : t.kind = 2 := of_decide_eq_true h3
        rw [if_pos q2] at hr
        refine r_seq ?_
        refine r_region ?_
        refine r_p (p_move rfl) rfl ?_
        refine r_p (p_field0 fo57_2 rfl) rfl ?_
        refine r_p (p_load1 t9 rfl rfl (g_row1 (k := 4) rfl rfl)) rfl ?_
        refine r_p (p_lookup Try.underlying112 keyS t22 rfl rfl (hm_ro (k := 0) rfl) rfl) rfl ?_
        refine r_p (p_assign rfl) rfl ?_
        refine r_nil ?_
        refine r_cret ?_
        refine r_retE (Oc.ok (vget vs t.name) sx vox) (Option.some.inj hr).symm rfl (rs1 (rv_tmp rfl)) (congrArg Fin.ret (vget_val vs t.name)) [0, 1] [] rfl rfl rfl
      · have q2 : ¬ t.kind = 2 := of_decide_eq_false h3
        rw [if_neg q2] at hr
        refine r_seq ?_
        refine r_region ?_
        refine r_p (p_bin rfl rfl b_eq) rfl ?_
        refine r_p (p_assign rfl) rfl ?_
        refine r_nil ?_
        refine r_cond rfl (fun h4 => ?_) (fun h4 => ?_)
        · have q4 : t.kind = 4 := of_decide_eq_true h4
          rw [if_pos q4] at hr
          have hm1 := VX_mem ht q4
          refine r_seq ?_
          refine r_draw [42, 43, 44, 45, 46, 47, 48, 49, 50, 6] _ rfl (stg_end (V := [(0, 42, _), (1, 43, _), (2, 44, _), (3, 45, _), (4, 46, _), (5, 47, _), (6, 48, _), (7, 49, _), (8, 50, _), (9, 6, _)]) [0, 1, 2, 3, 4, 5, 6, 7, 8, 9] rfl rfl (prs_cons (pri rfl (p_move rfl)) (prs_cons (pri rfl (p_move rfl)) (prs_cons (pri rfl (p_idx_sl (j := 0) Try.underlying35 t22 rfl rfl (hs_own (k := 90) rfl) rfl (by omega))) (prs_cons (pri rfl (p_load1 t22 rfl rfl (g_el' (hs_own (k := 90) rfl) (by intro _; rfl) (getD_get 0 (by omega)) (by rfl)))) (prs_cons (pri rfl (p_bin rfl rfl (b_rem (by decide) (tmod_u32 h7)))) (prs_cons (pri rfl (p_nilCheck rfl)) (prs_cons (pri rfl (p_field0 fo92_5 rfl)) (prs_cons (pri rfl (p_idx_arr (j := (acc.getD 0 0 % 256).toNat) Try.underlying69 t22 rfl rfl (by omega) (by omega))) (prs_cons (pri rfl (p_load1 t22 rfl rfl (g_row1 (k := 0) rfl (by rw [Nat.mul_one]; exact mC_mem (by omega))))) (prs_cons (pri rfl (p_assign rfl)) prs_nil)))))))))) rfl rfl rfl ?_)
          refine r_cret ?_
          refine r_retE (Oc.ok (sx.mem (acc.getD 0 0 % 256).toNat) sx vox) (Option.some.inj hr).symm rfl (rs1 (rv_tmp rfl)) rfl [0, 1] [] rfl rfl rfl
        · have q4 : ¬ t.kind = 4 := of_decide_eq_false h4
          rw [if_neg q4] at hr
          refine r_seq ?_
          refine r_region ?_
          refine r_p (p_bin rfl rfl b_eq) rfl ?_
          refine r_p (p_assign rfl) rfl ?_
          refine r_nil ?_
          refine r_cond rfl (fun h5 => ?_) (fun h5 => ?_)
          · have q5 : t.kind = 5 := of_decide_eq_true h5
            rw [if_pos q5] at hr
            refine r_more 6 9 rfl (ins_now n5.i) ?_
            refine r_seq ?_
            refine r_seq ?_
            refine r_region ?_
            refine r_p (p_move rfl) rfl ?_
            refine r_p (p_nilCheck rfl) rfl ?_
            refine r_p (p_field0 fo92_3 rfl) rfl ?_
            refine r_p (p_load1 t35 rfl rfl (g_row1 (k := 0) rfl rfl)) rfl ?_
            refine r_p (p_len_sl Try.underlying35 rfl (hs_sl (k := 9) rfl)) rfl ?_
            refine r_p (p_bin rfl rfl b_eq) rfl ?_
            refine r_nil ?_
            refine r_cond rfl (fun h6 => ?_) (fun h6 => ?_)
            · (try simp only [decide_eq_true_eq, decide_eq_false_iff_not, Bool.and_eq_true, Bool.or_eq_true, Bool.and_eq_false_iff, Bool.or_eq_false_iff, Bool.not_eq_true, Bool.not_eq_false, Bool.not_eq_true', Bool.not_eq_false', Bool.not_not, bne_iff_ne, beq_iff_eq] at h6)
              have qi : sx.inp = [] := List.eq_nil_of_length_eq_zero (by omega)
              rw [qi] at hr
              refine r_seq ?_
              refine r_region ?_
              refine r_p (p_assign rfl) rfl ?_
              refine r_nil ?_
              refine r_cret ?_
              refine r_retE (Oc.ok 0 sx vox) (Option.some.inj hr).symm rfl (rs1 (rv_tmp rfl)) rfl [0, 1] [] rfl rfl rfl
            · (try simp only [decide_eq_true_eq, decide_eq_false_iff_not, Bool.and_eq_true, Bool.or_eq_true, Bool.and_eq_false_iff, Bool.or_eq_false_iff, Bool.not_eq_true, Bool.not_eq_false, Bool.not_eq_true', Bool.not_eq_false', Bool.not_not, bne_iff_ne, beq_iff_eq] at h6)
              obtain ⟨a, rest, qi⟩ : ∃ a rest, sx.inp = a :: rest := by
                cases h : sx.inp with
                | nil => rw [h] at h6; simp at h6
                | cons a r => exact ⟨a, r, rfl⟩
              rw [qi] at hr
              refine r_skip ?_
              refine r_seq ?_
              refine r_region ?_
              refine r_p (p_move rfl) rfl ?_
              refine r_p (p_nilCheck rfl) rfl ?_
              refine r_p (p_field0 fo92_3 rfl) rfl ?_
              refine r_p (p_load1 t35 rfl rfl (g_row1 (k := 0) rfl rfl)) rfl ?_
              refine r_p (p_idx_sl (j := 0) Try.underlying35 t22 rfl rfl (hs_sl (k := 9) rfl) rfl (by rw [qi]; simp)) rfl ?_
              refine r_p (p_load1 t22 rfl rfl (g_el' (hs_sl (k := 9) rfl) (by intro _; rfl) (show sx.inp[0]? = some a by rw [qi]; rfl) (by rfl))) rfl ?_
              refine r_p (p_assign rfl) rfl ?_
              refine r_nil ?_
              refine r_seq ?_
              refine r_region ?_
              refine r_p (p_move rfl) rfl ?_
              refine r_p (p_move rfl) rfl ?_
              refine r_p (p_nilCheck rfl) rfl ?_
              refine r_p (p_field0 fo92_3 rfl) rfl ?_
              refine r_p (p_load1 t35 rfl rfl (g_row1 (k := 0) rfl rfl)) rfl ?_
              refine r_p (p_slice_lo (j := 1) Try.underlying35 t22 rfl rfl (hs_sl (k := 9) rfl) rfl (by rw [qi]; simp)) rfl ?_
              refine r_p (p_nilCheck rfl) rfl ?_
              refine r_p (p_field0 fo92_3 rfl) rfl ?_
              refine r_store_row (k := 0) t35 rfl rfl rfl rfl rfl rfl (mC_fit (by decide)) (mC_setIn) ?_
              refine r_conva (k := 0) (A' := row e.m 92 (mR e { sx with inp := rest } vox d false 0)) rfl (fun _ _ h => by rw [← mR_in n5.i qi]; exact h) ?_
              refine r_nil ?_
              refine r_seq ?_
              refine r_region ?_
              refine r_p (p_move rfl) rfl ?_
              refine r_p (p_assign rfl) rfl ?_
              refine r_nil ?_
              refine r_cret ?_
              refine r_retE (Oc.ok a { sx with inp := rest } vox) (Option.some.inj hr).symm rfl (rs1 (rv_tmp rfl)) rfl [0, 1] [] rfl rfl rfl
          · have q5 : ¬ t.kind = 5 := of_decide_eq_false h5
            rw [if_neg q5] at hr
            refine r_seq ?_
            refine r_region ?_
            refine r_p (p_bin rfl rfl b_eq) rfl ?_
            refine r_p (p_assign rfl) rfl ?_
            refine r_nil ?_
            refine r_cond rfl (fun h7 => ?_) (fun h7 => ?_)
            · have q6 : t.kind = 6 := of_decide_eq_true h7
              rw [if_pos q6] at hr
              obtain ⟨hu0, hu1⟩ := VX_un ht q6
              obtain ⟨u, hu⟩ := Option.isSome_iff_exists.1 (hu1 (acc.getD 0 0))
              have hul := UnLaw_all t.name (acc.getD 0 0) (getD_oW n4 0)
              unfold UnLaw at hul
              rw [hu] at hul hr
              obtain ⟨p, hun, hcb, hsu⟩ := hul
              refine r_seq ?_
              refine r_draw [76, 77, 78, 79, 80, 81, 82, 83, 84, 85, 86, 6] _ rfl (stg_mem (V := [(0, 76, _), (1, 77, _), (2, 78, _), (3, 79, _), (4, 80, _), (5, 81, _), (6, 82, _), (7, 83, _), (8, 84, _), (9, 85, _)]) [0, 1, 2, 3, 4, 5, 6, 7, 8, 9] 10 [10, 9, 8, 7, 6, 5, 4, 3, 2, 1, 0] [11] (fun _ => [(11, 6, _)]) rfl rfl (prs_cons (pri rfl (p_move rfl)) (prs_cons (pri rfl (p_nilCheck rfl)) (prs_cons (pri rfl (p_field0 fo92_1 rfl)) (prs_cons (pri rfl (p_load1 t76 rfl rfl (g_row1 (k := 0) rfl rfl))) (prs_cons (pri rfl (p_field0 fo57_2 rfl)) (prs_cons (pri rfl (p_load1 t9 rfl rfl (g_row1 (k := 4) rfl rfl))) (prs_cons (pri rfl (p_lookup Try.underlying76 keyS t74 rfl rfl (hm_ro (k := 4) rfl) hun)) (prs_cons (pri rfl (p_move rfl)) (prs_cons (pri rfl (p_idx_sl (j := 0) Try.underlying35 t22 rfl rfl (hs_own (k := 90) rfl) rfl (by omega))) (prs_cons (pri rfl (p_load1 t22 rfl rfl (g_el' (hs_own (k := 90) rfl) (by intro _; rfl) (getD_get 0 (by omega)) (by rfl)))) prs_nil)))))))))) rfl rfl rfl rfl rfl rfl rfl rfl rfl rfl rfl (fun _ _ => rfl) rfl (ms_call (xs := [.tmp 85]) hsu hcb [] [] [] [] rfl rfl rfl rfl rfl rfl rfl rfl (fun _ _ => rfl) (fun _ _ _ => rfl)) (fun _ _ => stg_end [11] rfl rfl (prs_cons (pri rfl (p_assign rfl)) prs_nil) rfl rfl rfl ?_))
              refine r_cret ?_
              refine r_retE (Oc.ok u sx vox) (Option.some.inj hr).symm rfl (rs1 (rv_tmp rfl)) rfl [0, 1] [] rfl rfl rfl
            · have q6 : ¬ t.kind = 6 := of_decide_eq_false h7
              rw [if_neg q6] at hr
              refine r_seq ?_
              refine r_region ?_
              refine r_p (p_bin rfl rfl b_eq) rfl ?_
              refine r_p (p_assign rfl) rfl ?_
              refine r_nil ?_
              refine r_cond rfl (fun h8 => ?_) (fun h8 => ?_)
              · have q7 : t.kind = 7 := of_decide_eq_true h8
                rw [if_pos q7] at hr
                obtain ⟨hu0, hu1⟩ := VX_bi ht q7
                obtain ⟨u, hu⟩ := Option.isSome_iff_exists.1 (hu1 (acc.getD 0 0) (acc.getD 1 0))
                have hul := BiLaw_all t.name (acc.getD 0 0) (acc.getD 1 0) (getD_oW n4 0) (getD_oW n4 1)
                unfold BiLaw at hul
                rw [hu] at hul hr
                obtain ⟨p, hun, hcb, hsu⟩ := hul
                refine r_seq ?_
                refine r_draw [89, 90, 91, 92, 93, 94, 95, 96, 97, 98, 99, 100, 101, 102, 6] _ rfl (stg_mem (V := [(0, 89, _), (1, 90, _), (2, 91, _), (3, 92, _), (4, 93, _), (5, 94, _), (6, 95, _), (7, 96, _), (8, 97, _), (9, 98, _), (10, 99, _), (11, 100, _), (12, 101, _)]) [0, 1, 2, 3, 4, 5, 6, 7, 8, 9, 10, 11, 12] 13 [13, 12, 11, 10, 9, 8, 7, 6, 5, 4, 3, 2, 1, 0] [14] (fun _ => [(14, 6, _)]) rfl rfl (prs_cons (pri rfl (p_move rfl)) (prs_cons (pri rfl (p_nilCheck rfl)) (prs_cons (pri rfl (p_field0 fo92_2 rfl)) (prs_cons (pri rfl (p_load1 t80 rfl rfl (g_row1 (k := 0) rfl rfl))) (prs_cons (pri rfl (p_field0 fo57_2 rfl)) (prs_cons (pri rfl (p_load1 t9 rfl rfl (g_row1 (k := 4) rfl rfl))) (prs_cons (pri rfl (p_lookup Try.underlying80 keyS t78 rfl rfl (hm_ro (k := 5) rfl) hun)) (prs_cons (pri rfl (p_move rfl)) (prs_cons (pri rfl (p_idx_sl (j := 0) Try.underlying35 t22 rfl rfl (hs_own (k := 90) rfl) rfl (by omega))) (prs_cons (pri rfl (p_load1 t22 rfl rfl (g_el' (hs_own (k := 90) rfl) (by intro _; rfl) (getD_get 0 (by omega)) (by rfl)))) (prs_cons (pri rfl (p_move rfl)) (prs_cons (pri rfl (p_idx_sl (j := 1) Try.underlying35 t22 rfl rfl (hs_own (k := 90) rfl) rfl (by omega))) (prs_cons (pri rfl (p_load1 t22 rfl rfl (g_el' (hs_own (k := 90) rfl) (by intro _; rfl) (getD_get 0 (by omega)) (by rfl)))) prs_nil))))))))))))) rfl rfl rfl rfl rfl rfl rfl rfl rfl rfl rfl (fun _ _ => rfl) rfl (ms_call (xs := [.tmp 98, .tmp 101]) hsu hcb [] [] [] [] rfl rfl rfl rfl rfl rfl rfl rfl (fun _ _ => rfl) (fun _ _ _ => rfl)) (fun _ _ => stg_end [14] rfl rfl (prs_cons (pri rfl (p_assign rfl)) prs_nil) rfl rfl rfl ?_))
                refine r_cret ?_
                refine r_retE (Oc.ok u sx vox) (Option.some.inj hr).symm rfl (rs1 (rv_tmp rfl)) rfl [0, 1] [] rfl rfl rfl
              · have q7 : ¬ t.kind = 7 := of_decide_eq_false h8
                rw [if_neg q7] at hr
                obtain ⟨f, hff, hfl⟩ := VX_call ht q1 q2 q4 q5 q6 q7
                rw [hff] at hr
                refine r_freeze 90 91 rfl own_to_sl ?_
                refine r_more 2 92 rfl (fns_f (ffind_mem hff)) ?_
                refine r_skip ?_
                refine r_seq ?_
                refine r_draw [103, 104, 105, 106, 107, 108, 109, 110, 111, 112, 6] _ rfl (stg_memX (V := [(0, 103, _), (1, 104, _), (2, 105, _), (3, 106, _), (4, 107, _), (5, 108, _), (6, 109, _), (7, 110, _), (8, 111, _)]) [0, 1, 2, 3, 4, 5, 6, 7, 8] 9 [9, 8, 7, 6, 5, 4, 3, 2, 1, 0] [10] (fun o => [(10, 6, _)]) rfl rfl (prs_cons (pri rfl (p_move rfl)) (prs_cons (pri rfl (p_move rfl)) (prs_cons (pri rfl (p_nilCheck rfl)) (prs_cons (pri rfl (p_field0 fo92_0 rfl)) (prs_cons (pri rfl (p_load1 t90 rfl rfl (g_row1 (k := 0) rfl rfl))) (prs_cons (pri rfl (p_field0 fo57_2 rfl)) (prs_cons (pri rfl (p_load1 t9 rfl rfl (g_row1 (k := 4) rfl rfl))) (prs_cons (pri rfl (p_lookup Try.underlying90 keyS t64 rfl rfl (hm_ro (k := 3) rfl) hff)) (prs_cons (pri rfl (p_move rfl)) prs_nil))))))))) rfl rfl rfl rfl rfl rfl rfl rfl rfl rfl rfl (fun _ _ => rfl) rfl (msx_callE (xs := [.tmp 103, .tmp 110, .tmp 111]) (ihC g (Nat.le_refl g) f d va acc sx vox r (ffind_mem hff) (by omega) n4 hd n5.ok n5.i hr) cb38 [0, 1] [(false, 91), (false, 92), (false, 2), (false, 3), (false, 4), (false, 5), (false, 6)] [0, 1] [] rfl rfl rfl rfl rfl rfl rfl rfl (fun o _ => lX_len o) (fun _ _ _ => rfl) (fun o pv ho hv => by obtain ⟨z, c, vo2, l, rfl, rfl⟩ := oX_pan hv; exact r_out (fn := Try.f100) (P := Try.prog) (Oc.er z c vo2 l) ho rfl [0, 1] [] rfl rfl rfl)) (fun o ho => stg_end [10] rfl rfl (prs_cons (pri rfl (p_assign rfl)) prs_nil) rfl rfl rfl ?_))
                obtain ⟨hof, hor⟩ := ho
                obtain ⟨a, s3, vo3, rfl⟩ := oX_ret hor
                refine r_cret ?_
                refine r_retE (Oc.ok a s3 vo3) hof rfl (rs1 (rv_tmp rfl)) rfl [0, 1] [] rfl rfl rfl

end Go.Proofs.Ytdcbbkpdlcojfaa
