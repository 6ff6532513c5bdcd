/-
  The walk of a statement. Condition: the state is one that an execution reaches.
-/
import Derived.Test.YtdcbbkpdlcojfaaAB
namespace Go.Proofs.Ytdcbbkpdlcojfaa
set_option linter.unusedSimpArgs false
set_option linter.unusedVariables false
open Go.RowKit

theorem b_step {e : En} {g : Nat} (hF : VF e.fs) (ihS : ∀ k, k ≤ g → HS e k) : HB e (g + 1) := fun l v d vb vs s vo r hl hll hd hs hr => block_step e g hF ihS l v d vb vs s vo r hl hll hd hs hr
section
variable {P : Program} {N : Nat} {w0 : World} {M H : Nat → Prop} {E : Env} {Γ R : Ctx} {Q : Exit → Act → World → Prop} {T : TypeId} {ps : String} {af : Array Edge}
/-- A call of an expression inside a region that draws its order. -/
theorem msx_X {o_dst : Option Nat} {n : Nat} {f : Operand} {xs : List Operand} {cap us vs : List Value} {at_ : Array TypeId} {L R0 : List Asn} {e : En} {d : Nat} {r : Re Int} (hs : SpecE P n vs L R0 (X := Oc Int) (fun o => o.fits r) oX (lX e d) (fun _ => [])) (hcb : Cb P n)
    (ks : List Nat) (rs : List (Bool × Nat)) (ns rns : List Nat) (hf : ev E f = some (.func (.func n) #[] cap.toArray)) (hx : evs E xs = some us) (hu : us ++ cap = vs)
    (hnd : ndB ks = true) (hL : cgets Γ ks = somes L) (hR : lgets Γ R rs = somes R0) (hl : lentOk ks rs = true) (hns : ndB ns = true) (hnl : ∀ x : Oc Int, x.fits r → ns.length = (lX e d x).length) (hrl : ∀ x : Oc Int, x.fits r → noneLent rs = true → rns.length = ([] : List Asn).length)
    (hp : ∀ (x : Oc Int) pv, x.fits r → oX x = .pan pv → At N w0 M H E (cputs ns (lX e d x) (ckill ks Γ)) (bif noneLent rs then cputs rns [] R else R) (Q (.panic [{ v := pv, recovered := false }]))) :
    MSX P N w0 M H E Γ R Q ⟨o_dst, .call { callee := .value f, args := xs.toArray, argTypes := at_ }, T, ps, af, none⟩ (X := Int × Ms × SV) (fun y => r = .ok y.1 y.2.1) (fun y => .int .u32 y.1) (fun y => cputs ns [row e.m 92 (mR e y.2.1 y.2.2 d false 0), own 22 1 eU (sv y.2.2) y.2.1.out] (ckill ks Γ)) (fun _ => bif noneLent rs then cputs rns [] R else R) := fun a w hE hC next hn =>
  msx_callE hs hcb ks rs ns rns hf hx hu hnd hL hR hl hns hnl hrl hp a w hE hC next fun x w' hx2 hC' => by
    obtain ⟨h1, h2⟩ := hx2
    obtain ⟨a, s, vo, rfl⟩ := oX_ret h2
    exact hn (a, s, vo) w' h1 hC'
end
theorem VY_es {fs : List Tf} {t : Ty} (h : VY fs t) : 1 ≤ t.es.length ∧ t.es.length ≤ 1000000 ∧ (t.kind = 3 → 2 ≤ t.es.length) ∧ VXs fs t.es := by cases t; exact h.1
theorem VY_body {fs : List Tf} {t : Ty} (h : VY fs t) : t.body.length ≤ 1000000 ∧ VYs fs t.body := by cases t; exact h.2.1
theorem VY_els {fs : List Tf} {t : Ty} (h : VY fs t) : t.els.length ≤ 1000000 ∧ VYs fs t.els := by cases t; exact h.2.2
/-- The state of a while loop. -/
structure Xw where
  g : Nat
  v : Int
  vs : Vs
  s : Ms
  vo : SV

set_option maxHeartbeats 16000000 in
set_option maxRecDepth 100000 in
theorem stmt_no (e : En) (g : Nat) (hF : VF e.fs) (ihX : ∀ k, k ≤ g → HX e k) (ihB : ∀ k, k ≤ g → HB e k) (t : Ty) (d vb : Nat) (vs : Vs) (s : Ms) (vo : SV) (r : Re (Vs × Option Int)) (ht : VY e.fs t) (hd : d ≤ 12) (hs : Sk e vs s) (hr : evS (g + 1) e.fs d vs t s = some r) (hfu : s.fuel ≤ 0) :
    SpecE Try.prog 85 [.pointer (some ⟨e.m, 0, none⟩), yV t, .map (some vb)] [row e.m 92 (mR e s vo d false 0), own 22 1 eU (sv vo) s.out, mp mkS Prod.fst vU (some vb) vs] (txsA t.ve t.es :: tysA t.vb t.body :: tysA t.vl t.els :: RO e) (X := Ob) (fun o => o.fits r) (fun o => oB o) (fun o => lB e d vb o) (fun _ => []) := by
  refine r_enterE Try.func85 rfl Try.ntmps85 rfl fun w0 M H => ?_
  unfold evS at hr
  rw [if_pos hfu] at hr
  refine r_seq ?_
  refine r_region ?_
  refine r_boxA rfl rfl fun b4 => ?_
  refine r_nil ?_
  refine r_seq ?_
  refine r_region ?_
  refine r_p (p_move rfl) rfl ?_
  refine r_callE (xs := [.tmp 7]) (pay_no e.m e.mf e.mu e.mb (itv e.vin (e.ins.length - s.inp.length)) vo s.mem s.fuel (d : Int) false 0 hfu) cb99 [0] [] [0] [] rfl rfl rfl rfl rfl rfl rfl rfl (fun _ _ => rfl) (fun _ _ _ => rfl) rfl (fun _ _ => ?_)
  refine aft_pan ?_
  show At _ _ _ _ _ _ _ (bodyPost Try.prog Try.f85 _ (.panic _))
  refine r_out (Ob.er 25 (mR e s vo d false 0) vo s.out vs) (Option.some.inj hr).symm rfl [0, 1, 2] [] rfl rfl rfl
set_option maxHeartbeats 16000000 in
set_option maxRecDepth 100000 in
theorem stmt_ok (e : En) (g : Nat) (hF : VF e.fs) (ihX : ∀ k, k ≤ g → HX e k) (ihB : ∀ k, k ≤ g → HB e k) (t : Ty) (d vb : Nat) (vs : Vs) (s : Ms) (vo : SV) (r : Re (Vs × Option Int)) (ht : VY e.fs t) (hd : d ≤ 12) (hs : Sk e vs s) (hr : evS (g + 1) e.fs d vs t s = some r) (hfu : ¬ s.fuel ≤ 0) :
    SpecE Try.prog 85 [.pointer (some ⟨e.m, 0, none⟩), yV t, .map (some vb)] [row e.m 92 (mR e s vo d false 0), own 22 1 eU (sv vo) s.out, mp mkS Prod.fst vU (some vb) vs] (txsA t.ve t.es :: tysA t.vb t.body :: tysA t.vl t.els :: RO e) (X := Ob) (fun o => o.fits r) (fun o => oB o) (fun o => lB e d vb o) (fun _ => []) := by
  refine r_enterE Try.func85 rfl Try.ntmps85 rfl fun w0 M H => ?_
  unfold evS at hr
  rw [if_neg hfu] at hr
  obtain ⟨s1, hs1⟩ : ∃ s1 : Ms, ({ s with fuel := s.fuel - 1 } : Ms) = s1 := ⟨_, rfl⟩
  have hp := Kp.pay hs.ok hfu
  have hmR : mC e.mf e.mu e.mb (itv e.vin (e.ins.length - s.inp.length)) vo s.mem (s.fuel - 1) (d : Int) false 0 = mR e s1 vo d false 0 := by rw [← hs1]; rfl
  have hso : s.out = s1.out := by rw [← hs1]
  have hsf : (s1.out.length : Int) + max s1.fuel 0 + 1 ≤ 1000000000000 := by
    have := hs.ok.out
    rw [← hs1]
    dsimp only
    omega
  rw [hs1] at hr hp
  have h51 := hs.kp hp
  obtain ⟨ve1, ve2, ve3, ve4⟩ := VY_es ht
  obtain ⟨e1, er, hes⟩ : ∃ a b, t.es = a :: b := by
    cases h : t.es with
    | nil => rw [h] at ve1; simp at ve1
    | cons a b => exact ⟨a, b, rfl⟩
  rw [hes] at hr
  dsimp only at hr
  obtain ⟨rx, hx⟩ : ∃ rx, evX g e.fs d vs e1 s1 = some rx := by
    cases h : evX g e.fs d vs e1 s1 with
    | none => rw [h] at hr; simp at hr
    | some q => exact ⟨q, rfl⟩
  rw [hx] at hr
  have hm1 : e1 ∈ t.es := by rw [hes]; simp
  have hv1 := ve4.mem e1 hm1
  refine r_more 0 20 rfl txs_sl ?_
  refine r_more 0 21 rfl (txs_kid hm1) ?_
  refine r_seq ?_
  refine r_region ?_
  refine r_boxA rfl rfl fun b4 => ?_
  refine r_nil ?_
  refine r_seq ?_
  refine r_region ?_
  refine r_p (p_move rfl) rfl ?_
  refine r_call (xs := [.tmp 7]) (pay_ok e.m e.mf e.mu e.mb (itv e.vin (e.ins.length - s.inp.length)) vo s.mem s.fuel (d : Int) false 0 hfu hs.ok.fuel) cb99 [0] [] [0] [] rfl rfl rfl rfl rfl rfl rfl rfl (fun _ _ => rfl) (fun _ _ _ => rfl) rfl (fun _ _ => ?_)
  rw [hmR]
  refine r_conva (k := 1) (A' := own 22 1 eU (sv vo) s1.out) rfl (fun _ _ h => by rw [← hso]; exact h) ?_
  refine r_nil ?_
  refine r_seq ?_
  refine r_region ?_
  refine r_p (p_move rfl) rfl ?_
  refine r_p (p_field0 fo54_2 rfl) rfl ?_
  refine r_p (p_load1 t51 rfl rfl (g_row1 (k := 4) rfl rfl)) rfl ?_
  refine r_p (p_idx_sl (j := 0) Try.underlying51 t57 rfl rfl (hs_sl (k := 20) rfl) rfl (by omega)) rfl ?_
  refine r_p (p_loadA t57 rfl rfl rfl (g_el' (hs_sl (k := 20) rfl) (by intro _; rfl) (show t.es[0]? = some e1 by rw [hes]; rfl) (by rfl))) rfl ?_
  refine r_p (p_move rfl) rfl ?_
  refine r_callE (xs := [.tmp 9, .tmp 13, .tmp 14]) (ihX g (Nat.le_refl g) e1 d vb vs s1 vo rx hv1 hd h51 hx) cb100 [0, 1] [(true, 2), (false, 21), (false, 3), (false, 4), (false, 5), (false, 6), (false, 7)] [0, 1] [] rfl rfl rfl rfl rfl rfl rfl rfl (fun o _ => lX_len o) (fun _ _ _ => rfl) rfl (fun o ho => ?_)
  rcases o with ⟨v, s2, vo2⟩ | ⟨z, c, vo2, l⟩
  rotate_left
  · refine aft_pan ?_
    have hz : rx = .err z := ho
    subst hz
    show At _ _ _ _ _ _ _ (bodyPost Try.prog Try.f85 _ (.panic _))
    refine r_out (Ob.er z c vo2 l vs) (Option.some.inj hr).symm rfl [0, 1, 2] [] rfl rfl rfl
  refine aft_ret ?_
  have hz : rx = .ok v s2 := ho
  subst hz
  dsimp only at hr
  obtain ⟨hw1, hw2⟩ := (ev_ok hF g).x d vs e1 s1 v s2 hv1 h51.v h51.ok hx
  have kk5 := h51.kp hw2
  have hsum := hw2.sum
  refine r_p (p_assign rfl) rfl ?_
  refine r_nil ?_
  refine r_seq ?_
  refine r_region ?_
  refine r_p (p_field0 fo54_0 rfl) rfl ?_
  refine r_p (p_load1 t3 rfl rfl (g_row1 (k := 4) rfl rfl)) rfl ?_
  refine r_nil ?_
  refine r_block ?_
  refine r_seq ?_
  refine r_seq ?_
  refine r_region ?_
  refine r_p (p_bin rfl rfl b_eq) rfl ?_
  refine r_p (p_assign rfl) rfl ?_
  refine r_nil ?_
  refine r_cond rfl (fun h1 => ?_) (fun h1 => ?_)
  · have q1 : t.kind = 1 := of_decide_eq_true h1
    rw [if_pos (.inl q1)] at hr
    refine r_skip ?_
    refine r_cond rfl (fun h2 => ?_) (fun h2 => ?_)
    · (try simp only [decide_eq_true_eq, decide_eq_false_iff_not, Bool.and_eq_true, Bool.or_eq_true, Bool.and_eq_false_iff, Bool.or_eq_false_iff, Bool.not_eq_true, Bool.not_eq_false, Bool.not_eq_true', Bool.not_eq_false', Bool.not_not, bne_iff_ne, beq_iff_eq] at h2)
      refine r_region ?_
      refine r_p (p_move rfl) rfl ?_
      refine r_p (p_field0 fo54_1 rfl) rfl ?_
      refine r_p (p_load1 t9 rfl rfl (g_row1 (k := 4) rfl rfl)) rfl ?_
      refine r_p (p_move rfl) rfl ?_
      refine r_mapUpdate (k := 2) (t.name, v) (vput vs t.name v) Try.underlying112 keyS rfl rfl rfl rfl (List.Perm.refl _) ?_
      refine r_nil ?_
      refine r_endE (Ob.ok (vput vs t.name v) none s2 vo2) (Option.some.inj hr).symm rfl rs0 rfl [0, 1, 2] [] rfl rfl rfl
    · exact absurd (decide_eq_true q1) (by rw [h2]; simp)
  · have q1 : ¬ t.kind = 1 := of_decide_eq_false h1
    refine r_region ?_
    refine r_p (p_bin rfl rfl b_eq) rfl ?_
    refine r_p (p_assign rfl) rfl ?_
    refine r_nil ?_
    refine r_cond rfl (fun h3 => ?_) (fun h3 => ?_)
    · have q2 : t.kind = 2 := of_decide_eq_true h3
      rw [if_pos (.inr q2)] at hr
      refine r_region ?_
      refine r_p (p_move rfl) rfl ?_
      refine r_p (p_field0 fo54_1 rfl) rfl ?_
      refine r_p (p_load1 t9 rfl rfl (g_row1 (k := 4) rfl rfl)) rfl ?_
      refine r_p (p_move rfl) rfl ?_
      refine r_mapUpdate (k := 2) (t.name, v) (vput vs t.name v) Try.underlying112 keyS rfl rfl rfl rfl (List.Perm.refl _) ?_
      refine r_nil ?_
      refine r_endE (Ob.ok (vput vs t.name v) none s2 vo2) (Option.some.inj hr).symm rfl rs0 rfl [0, 1, 2] [] rfl rfl rfl
    · have q2 : ¬ t.kind = 2 := of_decide_eq_false h3
      rw [if_neg (fun h => h.elim q1 q2)] at hr
      refine r_seq ?_
      refine r_region ?_
      refine r_p (p_bin rfl rfl b_eq) rfl ?_
      refine r_p (p_assign rfl) rfl ?_
      refine r_nil ?_
      refine r_cond rfl (fun h4 => ?_) (fun h4 => ?_)
      · have q3 : t.kind = 3 := of_decide_eq_true h4
        rw [if_pos q3] at hr
        have ve5 := ve3 q3
        obtain ⟨e2, er2, her⟩ : ∃ a b, er = a :: b := by
          cases h : er with
          | nil => rw [hes, h] at ve5; simp at ve5
          | cons a b => exact ⟨a, b, rfl⟩
        rw [her] at hr
        dsimp only at hr
        obtain ⟨ry, hy⟩ : ∃ ry, evX g e.fs d vs e2 s2 = some ry := by
          cases h : evX g e.fs d vs e2 s2 with
          | none => rw [h] at hr; simp at hr
          | some q => exact ⟨q, rfl⟩
        rw [hy] at hr
        have hm2 : e2 ∈ t.es := by rw [hes, her]; simp
        have hv2 := ve4.mem e2 hm2
        have hes2 : t.es[1]? = some e2 := by rw [hes, her]; rfl
        have hel2 : 1 < t.es.length := by rw [hes, her]; simp
        have hwm := tmod_u32 (b := 256) hw1
        refine r_more 0 22 rfl (txs_kid hm2) ?_
        refine r_draw [27, 28, 29, 30, 31, 32, 33, 34, 35, 36, 37, 38, 39] _ rfl (stg_memX (V := [(0, 27, _), (1, 28, _), (2, 29, _), (3, 30, _), (4, 31, _), (5, 32, _), (6, 33, _), (7, 34, _), (8, 35, _), (10, 37, _), (11, 38, _)]) [0, 1, 2, 3, 4, 5, 6, 7, 8, 10, 11] 9 [9, 8, 7, 6, 5, 4, 3] [12] (fun y5 => [(12, 39, _)]) rfl rfl (prs_cons (pri rfl (p_move rfl)) (prs_cons (pri rfl (p_move rfl)) (prs_cons (pri rfl (p_bin rfl rfl (b_rem (by decide) hwm))) (prs_cons (pri rfl (p_move rfl)) (prs_cons (pri rfl (p_field0 fo54_2 rfl)) (prs_cons (pri rfl (p_load1 t51 rfl rfl (g_row1 (k := 4) rfl rfl))) (prs_cons (pri rfl (p_idx_sl (j := 1) Try.underlying51 t57 rfl rfl (hs_sl (k := 20) rfl) rfl hel2)) (prs_cons (pri rfl (p_loadA t57 rfl rfl rfl (g_el' (hs_sl (k := 20) rfl) (by intro _; rfl) hes2 (by rfl)))) (prs_cons (pri rfl (p_move rfl)) (prs_cons (pri rfl (p_nilCheck rfl)) (prs_cons (pri rfl (p_field0 fo92_5 rfl)) prs_nil))))))))))) rfl rfl rfl rfl rfl rfl rfl rfl rfl rfl rfl (fun _ _ => rfl) rfl (msx_X (xs := [.tmp 30, .tmp 34, .tmp 35]) (ihX g (Nat.le_refl g) e2 d vb vs s2 vo2 ry hv2 hd kk5 hy) cb100 [0, 1] [(true, 2), (false, 22), (false, 3), (false, 4), (false, 5), (false, 6), (false, 7)] [0, 1] [] rfl rfl rfl rfl rfl rfl rfl rfl (fun o _ => lX_len o) (fun _ _ _ => rfl) (fun o pv ho hv => by obtain ⟨z, c, vo3, l, rfl, rfl⟩ := oX_pan hv; have hz : ry = .err z := ho; subst hz; exact r_out (fn := Try.f85) (P := Try.prog) (Ob.er z c vo3 l vs) (Option.some.inj hr).symm rfl [0, 1, 2] [] rfl rfl rfl)) (fun y5 hy5 => stg_mem0 [12, 0, 1, 2, 10, 11] 13 [13, 12, 11, 10, 9, 8, 7, 6, 5, 4, 3, 2, 1, 0] [] (fun _ => []) rfl rfl (prs_cons (pri rfl (p_idx_arr (j := (v % 256).toNat) Try.underlying69 t22 rfl rfl (by have := hw1.1; omega) (by omega))) (prs_cons (pri rfl (p_move rfl)) (prs_cons (pri rfl (p_move rfl)) (prs_cons (pri rfl (p_bin rfl rfl (b_rem (by decide) hwm))) (prs_cons (pri rfl (p_nilCheck rfl)) (prs_cons (pri rfl (p_field0 fo92_5 rfl)) prs_nil)))))) rfl rfl rfl rfl rfl rfl rfl rfl rfl (fun _ _ => rfl) rfl (ms_store_row (k := 0) t22 rfl rfl rfl rfl rfl rfl (mC_fit (by omega)) (mC_setMem (by omega))) (fun _ _ => stg_end [] rfl rfl prs_nil rfl rfl rfl ?_)))
        obtain ⟨w5, s5, vo5⟩ := y5
        have hz : ry = .ok w5 s5 := hy5
        subst hz
        refine r_endE (Ob.ok vs none { s5 with mem := mput s5.mem (v % 256).toNat w5 } vo5) (Option.some.inj hr).symm rfl rs0 rfl [0, 1, 2] [] rfl rfl rfl
      · have q3 : ¬ t.kind = 3 := of_decide_eq_false h4
        rw [if_neg q3] at hr
        refine r_seq ?_
        refine r_region ?_
        refine r_p (p_bin rfl rfl b_eq) rfl ?_
        refine r_p (p_assign rfl) rfl ?_
        refine r_nil ?_
        refine r_cond rfl (fun h5 => ?_) (fun h5 => ?_)
        · have q4 : t.kind = 4 := of_decide_eq_true h5
          rw [if_pos q4] at hr
          refine r_seq ?_
          refine r_region ?_
          refine r_p (p_move rfl) rfl ?_
          refine r_p (p_bin rfl rfl b_ne) rfl ?_
          refine r_nil ?_
          refine r_cond rfl (fun h6 => ?_) (fun h6 => ?_)
          · have qv : ¬ v = 0 := by simpa using h6
            rw [if_neg qv] at hr
            refine r_region ?_
            refine r_p (p_move rfl) rfl ?_
            refine r_p (p_field0 fo54_3 rfl) rfl ?_
            refine r_p (p_load1 t52 rfl rfl (g_row1 (k := 4) rfl rfl)) rfl ?_
            refine r_p (p_move rfl) rfl ?_
            refine r_callE (xs := [.tmp 44, .tmp 46, .tmp 47]) (ihB g (Nat.le_refl g) t.body t.vb d vb vs s2 vo2 r (VY_body ht).2 (VY_body ht).1 hd kk5 hr) cb69 [0, 1, 2] [(false, 1), (false, 3), (false, 4), (false, 5), (false, 6), (false, 7)] [0, 1, 2] [] rfl rfl rfl rfl rfl rfl rfl rfl (fun o _ => lB_len o) (fun _ _ _ => rfl) rfl (fun o ho => ?_)
            rcases o with ⟨vs3, ro3, s3, vo3⟩ | ⟨z, c, vo3, l, vs3⟩
            rotate_left
            · refine aft_pan ?_
              have hz : Ob.fits r (.er z c vo3 l vs3) := ho
              show At _ _ _ _ _ _ _ (bodyPost Try.prog Try.f85 _ (.panic _))
              refine r_out (Ob.er z c vo3 l vs3) hz rfl [0, 1, 2] [] rfl rfl rfl
            refine aft_ret ?_
            refine r_nil ?_
            refine r_endE (Ob.ok vs3 ro3 s3 vo3) ho rfl rs0 rfl [0, 1, 2] [] rfl rfl rfl
          · have qv : v = 0 := by simpa using h6
            rw [if_pos qv] at hr
            refine r_region ?_
            refine r_p (p_move rfl) rfl ?_
            refine r_p (p_field0 fo54_4 rfl) rfl ?_
            refine r_p (p_load1 t52 rfl rfl (g_row1 (k := 4) rfl rfl)) rfl ?_
            refine r_p (p_move rfl) rfl ?_
            refine r_callE (xs := [.tmp 49, .tmp 51, .tmp 52]) (ihB g (Nat.le_refl g) t.els t.vl d vb vs s2 vo2 r (VY_els ht).2 (VY_els ht).1 hd kk5 hr) cb69 [0, 1, 2] [(false, 2), (false, 3), (false, 4), (false, 5), (false, 6), (false, 7)] [0, 1, 2] [] rfl rfl rfl rfl rfl rfl rfl rfl (fun o _ => lB_len o) (fun _ _ _ => rfl) rfl (fun o ho => ?_)
            rcases o with ⟨vs3, ro3, s3, vo3⟩ | ⟨z, c, vo3, l, vs3⟩
            rotate_left
            · refine aft_pan ?_
              have hz : Ob.fits r (.er z c vo3 l vs3) := ho
              show At _ _ _ _ _ _ _ (bodyPost Try.prog Try.f85 _ (.panic _))
              refine r_out (Ob.er z c vo3 l vs3) hz rfl [0, 1, 2] [] rfl rfl rfl
            refine aft_ret ?_
            refine r_nil ?_
            refine r_endE (Ob.ok vs3 ro3 s3 vo3) ho rfl rs0 rfl [0, 1, 2] [] rfl rfl rfl
        · have q4 : ¬ t.kind = 4 := of_decide_eq_false h5
          rw [if_neg q4] at hr
          refine r_seq ?_
          refine r_region ?_
          refine r_p (p_bin rfl rfl b_eq) rfl ?_
          refine r_p (p_assign rfl) rfl ?_
          refine r_nil ?_
          refine r_cond rfl (fun h7 => ?_) (fun h7 => ?_)
          · have q5 : t.kind = 5 := of_decide_eq_true h7
            rw [if_pos q5] at hr
            refine r_block ?_
            refine r_loop (X := Xw) (fun x => x.g ≤ g ∧ Sk e x.vs x.s ∧ evW x.g e.fs d x.vs e1 t.body x.v x.s = some r) (fun x => [(0, .pointer (some ⟨e.m, 0, none⟩)), (2, .map (some vb)), (4, .pointer (some ⟨b4, 0, none⟩)), (6, .int .u32 x.v)]) (fun x => [(0, row e.m 92 (mR e x.s x.vo d false 0)), (1, own 22 1 eU (sv x.vo) x.s.out), (2, mp mkS Prod.fst vU (some vb) x.vs), (4, row b4 54 (eTy t))]) (fun x => [(0, txsA t.ve t.es), (1, tysA t.vb t.body), (2, tysA t.vl t.els), (3, fnsA e.fs), (4, mp mkS Tf.name tfV (some e.mf) e.fs), (5, mp mkS Prod.fst vF (some e.mu) uL), (6, mp mkS Prod.fst vF (some e.mb) bL), (7, sl 1 eU (sv e.vin) e.ins), (20, sl 4 eTx (sv t.ve) t.es), (21, txsA e1.v e1.kids)]) (fun x => x.g) ⟨g, v, vs, s2, vo2⟩ ⟨Nat.le_refl _, kk5, hr⟩ rfl rfl rfl (fun x hx0 => ?_)
            obtain ⟨gx, vx, vs1, sx, vox⟩ := x
            obtain ⟨n1, n3, n4⟩ := hx0
            dsimp only at n1 n3 n4 ⊢
            refine r_seq ?_
            refine r_seq ?_
            refine r_region ?_
            refine r_p (p_move rfl) rfl ?_
            refine r_p (p_bin rfl rfl b_ne) rfl ?_
            refine r_nil ?_
            refine r_cond rfl (fun h8 => ?_) (fun h8 => ?_)
            · have qv : ¬ vx = 0 := by simpa using h8
              obtain ⟨g2, q, rfl, hwb, hwe, hws, hwn⟩ := evW_in n4 qv
              refine r_skip ?_
              refine r_block ?_
              refine r_seq ?_
              refine r_region ?_
              refine r_p (p_move rfl) rfl ?_
              refine r_p (p_field0 fo54_3 rfl) rfl ?_
              refine r_p (p_load1 t52 rfl rfl (g_row1 (k := 4) rfl rfl)) rfl ?_
              refine r_p (p_move rfl) rfl ?_
              refine r_callE (xs := [.tmp 58, .tmp 60, .tmp 61]) (ihB g2 (by omega) t.body t.vb d vb vs1 sx vox q (VY_body ht).2 (VY_body ht).1 hd n3 hwb) cb69 [0, 1, 2] [(false, 1), (false, 3), (false, 4), (false, 5), (false, 6), (false, 7)] [0, 1, 2] [] rfl rfl rfl rfl rfl rfl rfl rfl (fun o _ => lB_len o) (fun _ _ _ => rfl) rfl (fun o ho => ?_)
              rcases o with ⟨vs3, ro3, s3, vo3⟩ | ⟨z, c, vo3, l, vs3⟩
              rotate_left
              · refine aft_pan ?_
                have hz : q = .err z := ho
                have hq := hwe z hz
                show At _ _ _ _ _ _ _ (bodyPost Try.prog Try.f85 _ (.panic _))
                refine r_out (Ob.er z c vo3 l vs3) hq rfl [0, 1, 2] [] rfl rfl rfl
              refine aft_ret ?_
              have hz : q = .ok (vs3, ro3) s3 := ho
              rw [hz] at hwb
              obtain ⟨hx1, hx2, hx3⟩ := (ev_ok hF g2).b d vs1 t.body sx _ s3 (VY_body ht).2 n3.v n3.ok hwb
              have kk6 : Sk e vs3 s3 := ⟨hx1, hx3.ok, n3.i.kp hx3⟩
              refine r_nil ?_
              refine r_seq ?_
              refine r_seq ?_
              refine r_region ?_
              refine r_p (p_move rfl) rfl ?_
              refine r_p (p_nilCheck rfl) rfl ?_
              refine r_p (p_field0 fo92_8 rfl) rfl ?_
              refine r_p (p_load1 t4 rfl rfl (g_row1 (k := 0) rfl mC_rt)) rfl ?_
              refine r_nil ?_
              refine r_cond rfl (fun h9 => ?_) (fun h9 => ?_)
              · obtain ⟨y3, hy3⟩ := Option.isSome_iff_exists.1 h9
                subst hy3
                refine r_cret ?_
                refine r_retE (Ob.ok vs3 (some y3) s3 vo3) (hws vs3 y3 s3 hz) rfl rs0 rfl [0, 1, 2] [] rfl rfl rfl
              · have hro : ro3 = none := by
                  cases ro3 with
                  | none => rfl
                  | some y => simp at h9
                subst hro
                obtain ⟨rz, hrz, hze, hzo⟩ := hwn vs3 s3 hz
                refine r_skip ?_
                refine r_region ?_
                refine r_p (p_move rfl) rfl ?_
                refine r_p (p_field0 fo54_2 rfl) rfl ?_
                refine r_p (p_load1 t51 rfl rfl (g_row1 (k := 4) rfl rfl)) rfl ?_
                refine r_p (p_idx_sl (j := 0) Try.underlying51 t57 rfl rfl (hs_sl (k := 20) rfl) rfl (by omega)) rfl ?_
                refine r_p (p_loadA t57 rfl rfl rfl (g_el' (hs_sl (k := 20) rfl) (by intro _; rfl) (show t.es[0]? = some e1 by rw [hes]; rfl) (by rfl))) rfl ?_
                refine r_p (p_move rfl) rfl ?_
                refine r_callE (xs := [.tmp 67, .tmp 71, .tmp 72]) (ihX g2 (by omega) e1 d vb vs3 s3 vo3 rz hv1 hd kk6 hrz) cb100 [0, 1] [(true, 2), (false, 21), (false, 3), (false, 4), (false, 5), (false, 6), (false, 7)] [0, 1] [] rfl rfl rfl rfl rfl rfl rfl rfl (fun o _ => lX_len o) (fun _ _ _ => rfl) rfl (fun o ho => ?_)
                rcases o with ⟨v4, s4, vo4⟩ | ⟨z, c, vo4, l⟩
                rotate_left
                · refine aft_pan ?_
                  have hz2 : rz = .err z := ho
                  have hq := hze z hz2
                  show At _ _ _ _ _ _ _ (bodyPost Try.prog Try.f85 _ (.panic _))
                  refine r_out (Ob.er z c vo4 l vs3) hq rfl [0, 1, 2] [] rfl rfl rfl
                refine aft_ret ?_
                have hz2 : rz = .ok v4 s4 := ho
                have hq := hzo v4 s4 hz2
                rw [hz2] at hrz
                obtain ⟨hy1, hy2⟩ := (ev_ok hF g2).x d vs3 e1 s3 v4 s4 hv1 kk6.v kk6.ok hrz
                have kk7 := kk6.kp hy2
                refine r_p (p_assign rfl) rfl ?_
                refine r_nil ?_
                refine r_here ⟨g2, v4, vs3, s4, vo4⟩ ⟨⟨by dsimp only; omega, kk7, hq⟩, by dsimp only; omega⟩ rfl rfl rfl
            · have qv : vx = 0 := by simpa using h8
              have hwo := evW_out n4 qv
              refine r_exit ?_
              refine r_endE (Ob.ok vs1 none sx vox) hwo rfl rs0 rfl [0, 1, 2] [] rfl rfl rfl
          · have q5 : ¬ t.kind = 5 := of_decide_eq_false h7
            rw [if_neg q5] at hr
            refine r_seq ?_
            refine r_region ?_
            refine r_p (p_bin rfl rfl b_eq) rfl ?_
            refine r_p (p_assign rfl) rfl ?_
            refine r_nil ?_
            refine r_cond rfl (fun h10 => ?_) (fun h10 => ?_)
            · have q6 : t.kind = 6 := of_decide_eq_true h10
              rw [if_pos q6] at hr
              refine r_region ?_
              refine r_p (p_move rfl) rfl ?_
              refine r_p (p_move rfl) rfl ?_
              refine r_p (p_move rfl) rfl ?_
              refine r_p (p_nilCheck rfl) rfl ?_
              refine r_p (p_field0 fo92_8 rfl) rfl ?_
              refine r_store_row (k := 0) t4 rfl rfl rfl rfl rfl rfl (mC_fit (by decide)) (mC_setRt) ?_
              refine r_p (p_nilCheck rfl) rfl ?_
              refine r_p (p_field0 fo92_9 rfl) rfl ?_
              refine r_store_row (k := 0) t22 rfl rfl rfl rfl rfl rfl (mC_fit (by decide)) (mC_setVal) ?_
              refine r_nil ?_
              refine r_endE (Ob.ok vs (some v) s2 vo2) (Option.some.inj hr).symm rfl rs0 rfl [0, 1, 2] [] rfl rfl rfl
            · have q6 : ¬ t.kind = 6 := of_decide_eq_false h10
              rw [if_neg q6] at hr
              refine r_seq ?_
              refine r_region ?_
              refine r_p (p_bin rfl rfl b_eq) rfl ?_
              refine r_p (p_assign rfl) rfl ?_
              refine r_nil ?_
              refine r_cond rfl (fun h11 => ?_) (fun h11 => ?_)
              · have q7 : t.kind = 7 := of_decide_eq_true h11
                rw [if_pos q7] at hr
                refine r_region ?_
                refine r_p (p_move rfl) rfl ?_
                refine r_p (p_move rfl) rfl ?_
                refine r_p (p_nilCheck rfl) rfl ?_
                refine r_p (p_field0 fo92_4 rfl) rfl ?_
                refine r_p (p_load1 t35 rfl rfl (g_row1 (k := 0) rfl rfl)) rfl ?_
                refine r_p (p_move rfl) rfl ?_
                refine r_bslice1 eU _ Try.underlying35 t22 rfl (by decide) (by decide) rfl rfl rfl rfl fun v91 => ?_
                refine r_append 1 Try.underlying35 t22 rfl (by decide) (fun _ => rfl) (fun _ => rfl) rfl rfl rfl (hs_own (k := 91) rfl) (by rw [List.length_singleton]; omega) (by unfold maxLen; rw [List.length_singleton]; omega) rfl fun v92 => ?_
                refine r_p (p_nilCheck rfl) rfl ?_
                refine r_p (p_field0 fo92_4 rfl) rfl ?_
                refine r_store_row (k := 0) t35 rfl rfl rfl rfl rfl rfl (mC_fit (by decide)) (mC_setOut) ?_
                refine r_nil ?_
                refine r_endE (Ob.ok vs none { s2 with out := s2.out ++ [v] } v92) (Option.some.inj hr).symm rfl rs0 rfl [0, 1, 2] [] rfl rfl rfl
              · have q7 : ¬ t.kind = 7 := of_decide_eq_false h11
                rw [if_neg q7] at hr
                refine r_skip ?_
                refine r_endE (Ob.ok vs none s2 vo2) (Option.some.inj hr).symm rfl rs0 rfl [0, 1, 2] [] rfl rfl rfl

end Go.Proofs.Ytdcbbkpdlcojfaa
