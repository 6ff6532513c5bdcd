/-
  The walk of statements, one after the other. Condition: the state is one that an execution reaches.
-/
import Derived.Test.YtdcbbkpdlcojfaaAA
namespace Go.Proofs.Ytdcbbkpdlcojfaa
set_option linter.unusedSimpArgs false
set_option linter.unusedVariables false
open Go.RowKit

/-- The contract of a call, one step of gas further. -/
theorem c_step {e : En} {g : Nat} (hF : VF e.fs) (ihB : HB e g) : HC e (g + 1) := fun f d va al s vo r hf hal hao hd hs hi hr => by
  by_cases h12 : d = 12
  · exact call_deep e g hF ihB f d va al s vo r hf hal hao hd hs hi hr h12
  · exact call_ok e g hF ihB f d va al s vo r hf hal hao hd hs hi hr h12
theorem evB_nil {g : Nat} {fs : List Tf} {d : Nat} {vs : Vs} {s : Ms} {r : Re (Vs × Option Int)} (h : evB g fs d vs [] s = some r) : r = .ok (vs, none) s := by
  cases g with
  | zero => simp [evB] at h
  | succ g =>
    simp only [evB, Option.some.injEq] at h
    exact h.symm
theorem evB_cons {g : Nat} {fs : List Tf} {d : Nat} {vs : Vs} {t : Ty} {l : List Ty} {s : Ms} {r : Re (Vs × Option Int)} (h : evB g fs d vs (t :: l) s = some r) :
    ∃ g2 q, g = g2 + 1 ∧ evS g2 fs d vs t s = some q ∧ (∀ z, q = .err z → r = .err z) ∧ (∀ vs1 x s1, q = .ok (vs1, some x) s1 → r = .ok (vs1, some x) s1) ∧ ∀ vs1 s1, q = .ok (vs1, none) s1 → evB g2 fs d vs1 l s1 = some r := by
  cases g with
  | zero => simp [evB] at h
  | succ g =>
    unfold evB at h
    cases hx : evS g fs d vs t s with
    | none => rw [hx] at h; simp at h
    | some q =>
      rw [hx] at h
      refine ⟨g, q, rfl, hx, fun z hz => ?_, fun vs1 x s1 hv => ?_, fun vs1 s1 hv => ?_⟩
      · subst hz
        exact (Option.some.inj h).symm
      · subst hv
        exact (Option.some.inj h).symm
      · subst hv
        exact h
theorem evW_out {g : Nat} {fs : List Tf} {d : Nat} {vs : Vs} {e : Tx} {l : List Ty} {v : Int} {s : Ms} {r : Re (Vs × Option Int)} (h : evW g fs d vs e l v s = some r) (hv : v = 0) : r = .ok (vs, none) s := by
  cases g with
  | zero => simp [evW] at h
  | succ g =>
    unfold evW at h
    rw [if_pos hv] at h
    exact (Option.some.inj h).symm
theorem evW_in {g : Nat} {fs : List Tf} {d : Nat} {vs : Vs} {e : Tx} {l : List Ty} {v : Int} {s : Ms} {r : Re (Vs × Option Int)} (h : evW g fs d vs e l v s = some r) (hv : ¬ v = 0) :
    ∃ g2 q, g = g2 + 1 ∧ evB g2 fs d vs l s = some q ∧ (∀ z, q = .err z → r = .err z) ∧ (∀ vs1 x s1, q = .ok (vs1, some x) s1 → r = .ok (vs1, some x) s1) ∧
      ∀ vs1 s1, q = .ok (vs1, none) s1 → ∃ rx, evX g2 fs d vs1 e s1 = some rx ∧ (∀ z, rx = .err z → r = .err z) ∧ ∀ w s2, rx = .ok w s2 → evW g2 fs d vs1 e l w s2 = some r := by
  cases g with
  | zero => simp [evW] at h
  | succ g =>
    unfold evW at h
    rw [if_neg hv] at h
    cases hx : evB g fs d vs l s with
    | none => rw [hx] at h; simp at h
    | some q =>
      rw [hx] at h
      refine ⟨g, q, rfl, hx, fun z hz => ?_, fun vs1 x s1 hq => ?_, fun vs1 s1 hq => ?_⟩
      · subst hz
        exact (Option.some.inj h).symm
      · subst hq
        exact (Option.some.inj h).symm
      · subst hq
        dsimp only at h
        cases hy : evX g fs d vs1 e s1 with
        | none => rw [hy] at h; simp at h
        | some rx =>
          rw [hy] at h
          refine ⟨rx, rfl, fun z hz => ?_, fun w s2 hz => ?_⟩
          · subst hz
            exact (Option.some.inj h).symm
          · subst hz
            exact h
/-- The state of the loop over statements. -/
structure Xb where
  i : Nat
  g : Nat
  vs : Vs
  ro : Option Int
  s : Ms
  vo : SV

set_option maxHeartbeats 8000000 in
set_option maxRecDepth 100000 in
theorem block_step (e : En) (g : Nat) (hF : VF e.fs) (ihS : ∀ k, k ≤ g → HS e k) (l : List Ty) (v : SV) (d vb : Nat) (vs : Vs) (s : Ms) (vo : SV) (r : Re (Vs × Option Int)) (hl : VYs e.fs l) (hll : l.length ≤ 1000000) (hd : d ≤ 12) (hs : Sk e vs s) (hr : evB (g + 1) e.fs d vs l s = some r) :
    SpecE Try.prog 69 [.pointer (some ⟨e.m, 0, none⟩), sv v, .map (some vb)] [row e.m 92 (mR e s vo d false 0), own 22 1 eU (sv vo) s.out, mp mkS Prod.fst vU (some vb) vs] (tysA v l :: RO e) (X := Ob) (fun o => o.fits r) (fun o => oB o) (fun o => lB e d vb o) (fun _ => []) := by
  refine r_enterE Try.func69 rfl Try.ntmps69 rfl fun w0 M H => ?_
  refine r_more 0 7 rfl tys_sl ?_
  refine r_seq ?_
  refine r_region ?_
  refine r_p (p_move rfl) rfl ?_
  refine r_p (p_len_sl Try.underlying52 rfl (hs_sl (k := 7) rfl)) rfl ?_
  refine r_p (p_move rfl) rfl ?_
  refine r_nil ?_
  refine r_block ?_
  refine r_loop (X := Xb) (fun x => x.i ≤ l.length ∧ x.g ≤ g + 1 ∧ Sk e x.vs x.s ∧ (x.ro = none → evB x.g e.fs d x.vs (l.drop x.i) x.s = some r) ∧ ∀ y, x.ro = some y → r = .ok (x.vs, some y) x.s) (fun x => [(0, .pointer (some ⟨e.m, 0, none⟩)), (2, .map (some vb)), (8, sv v), (9, .int .i64 (l.length : Int)), (10, .int .i64 (x.i : Int))]) (fun x => [(0, row e.m 92 (mR e x.s x.vo d x.ro.isSome (x.ro.getD 0))), (1, own 22 1 eU (sv x.vo) x.s.out), (2, mp mkS Prod.fst vU (some vb) x.vs)]) (fun x => [(0, tysA v l), (1, fnsA e.fs), (2, mp mkS Tf.name tfV (some e.mf) e.fs), (3, mp mkS Prod.fst vF (some e.mu) uL), (4, mp mkS Prod.fst vF (some e.mb) bL), (5, sl 1 eU (sv e.vin) e.ins), (7, sl 5 eTy (sv v) l)]) (fun x => l.length - x.i) ⟨0, g + 1, vs, none, s, vo⟩ ⟨Nat.zero_le _, Nat.le_refl _, hs, fun _ => hr, fun y hy => by simp at hy⟩ rfl rfl rfl (fun x hx0 => ?_)
  obtain ⟨i, gx, vs1, ro, sx, vox⟩ := x
  obtain ⟨n1, n2, n3, n4, n5⟩ := hx0
  dsimp only at n1 n2 n3 n4 n5 ⊢
  refine r_seq ?_
  refine r_region ?_
  refine r_p (p_bin rfl rfl b_lt) rfl ?_
  refine r_nil ?_
  refine r_seq ?_
  refine r_cond rfl (fun h1 => ?_) (fun h1 => ?_)
  · (try simp only [decide_eq_true_eq, decide_eq_false_iff_not, Bool.and_eq_true, Bool.or_eq_true, Bool.and_eq_false_iff, Bool.or_eq_false_iff, Bool.not_eq_true, Bool.not_eq_false, Bool.not_eq_true', Bool.not_eq_false', Bool.not_not, bne_iff_ne, beq_iff_eq] at h1)
    have hi : i < l.length := by omega
    obtain ⟨st, hst⟩ : ∃ k, l[i]? = some k := ⟨_, List.getElem?_eq_getElem hi⟩
    have hm := List.mem_of_getElem? hst
    have hvy := hl.mem st hm
    refine r_skip ?_
    refine r_seq ?_
    refine r_block ?_
    refine r_seq ?_
    refine r_region ?_
    refine r_p (p_idx_sl (j := i) Try.underlying52 t54 rfl rfl (hs_sl (k := 7) rfl) (by first | rfl | omega) (by first | omega | (simp; done) | (simp; omega))) rfl ?_
    refine r_p (p_loadA t54 rfl rfl rfl (g_el' (hs_sl (k := 7) rfl) (by intro _; rfl) hst (by rfl))) rfl ?_
    refine r_alloc t54 rfl rfl fun b7 => ?_
    refine r_store_all (k := 7) t54 rfl rfl rfl rfl rfl rfl ?_
    refine r_nil ?_
    refine r_seq ?_
    refine r_seq ?_
    refine r_region ?_
    refine r_p (p_move rfl) rfl ?_
    refine r_p (p_nilCheck rfl) rfl ?_
    refine r_p (p_field0 fo92_8 rfl) rfl ?_
    refine r_p (p_load1 t4 rfl rfl (g_row1 (k := 0) rfl mC_rt)) rfl ?_
    refine r_nil ?_
    refine r_cond rfl (fun h2 => ?_) (fun h2 => ?_)
    · obtain ⟨y, hy⟩ := Option.isSome_iff_exists.1 h2
      subst hy
      refine r_cret ?_
      refine r_retE (Ob.ok vs1 (some y) sx vox) (n5 y rfl) rfl rs0 rfl [0, 1, 2] [] rfl rfl rfl
    · have hro : ro = none := by
        cases ro with
        | none => rfl
        | some y => simp at h2
      subst hro
      have n6 := n4 rfl
      rw [drop_kid hst] at n6
      obtain ⟨g2, q, rfl, hx, hre, hrs, hrn⟩ := evB_cons n6
      refine r_skip ?_
      refine r_region ?_
      refine r_p (p_move rfl) rfl ?_
      refine r_p (p_loadA t54 rfl rfl rfl (g_all (k := 7) rfl)) rfl ?_
      refine r_p (p_move rfl) rfl ?_
      refine r_more 0 20 rfl (tys_es hm) ?_
      refine r_more 0 21 rfl (tys_body hm) ?_
      refine r_more 0 22 rfl (tys_els hm) ?_
      refine r_callE (xs := [.tmp 18, .tmp 19, .tmp 20]) (ihS g2 (by omega) st d vb vs1 sx vox q hvy hd n3 hx) cb85 [0, 1, 2] [(false, 20), (false, 21), (false, 22), (false, 1), (false, 2), (false, 3), (false, 4), (false, 5)] [0, 1, 2] [] rfl rfl rfl rfl rfl rfl rfl rfl (fun o _ => lB_len o) (fun _ _ _ => rfl) rfl (fun o ho => ?_)
      rcases o with ⟨vs2, ro2, s2, vo2⟩ | ⟨z, c, vo2, l2, vs2⟩
      rotate_left
      · refine aft_pan ?_
        have hz : q = .err z := ho
        have hq := hre z hz
        show At _ _ _ _ _ _ _ (bodyPost Try.prog Try.f69 _ (.panic _))
        refine r_out (Ob.er z c vo2 l2 vs2) hq rfl [0, 1, 2] [] rfl rfl rfl
      refine aft_ret ?_
      have hz : q = .ok (vs2, ro2) s2 := ho
      rw [hz] at hx
      obtain ⟨hv1, hv2, hv3⟩ := (ev_ok hF g2).s d vs1 st sx _ s2 hvy n3.v n3.ok hx
      have h5b : Sk e vs2 s2 := ⟨hv1, hv3.ok, n3.i.kp hv3⟩
      refine r_nil ?_
      refine r_region ?_
      refine r_p (p_bin rfl rfl (b_add (by first | exact w_i64 (by omega) (by omega) | rfl))) rfl ?_
      refine r_p (p_move rfl) rfl ?_
      refine r_nil ?_
      refine r_here ⟨i + 1, g2, vs2, ro2, s2, vo2⟩ ⟨⟨by dsimp only; omega, by dsimp only; omega, h5b, fun hn => hrn vs2 s2 (by rw [hz, show ro2 = none from hn]), fun y hy => hrs vs2 y s2 (by rw [hz, show ro2 = some y from hy])⟩, by dsimp only; omega⟩ rfl rfl rfl
  · (try simp only [decide_eq_true_eq, decide_eq_false_iff_not, Bool.and_eq_true, Bool.or_eq_true, Bool.and_eq_false_iff, Bool.or_eq_false_iff, Bool.not_eq_true, Bool.not_eq_false, Bool.not_eq_true', Bool.not_eq_false', Bool.not_not, bne_iff_ne, beq_iff_eq] at h1)
    have hi : i = l.length := by omega
    have hend : (Ob.ok vs1 ro sx vox).fits r := by
      cases ro with
      | some y => exact n5 y rfl
      | none =>
        have h := n4 rfl
        rw [List.drop_of_length_le (by omega)] at h
        exact evB_nil h
    refine r_exit ?_
    refine r_endE (Ob.ok vs1 ro sx vox) hend rfl rs0 rfl [0, 1, 2] [] rfl rfl rfl

end Go.Proofs.Ytdcbbkpdlcojfaa
