/-
  The walk of JournalSteps. Condition: the numbers are of 64 bits.
-/
import Derived.Test.YtohenjmkhncoiaaP2
namespace Go.Proofs.Ytohenjmkhncoiaa
set_option linter.unusedSimpArgs false
set_option linter.unusedVariables false
open Go.RowKit

set_option maxHeartbeats 2000000 in
set_option maxRecDepth 100000 in
theorem steps_law (vq : SV) (q : List Int) (hq : ∀ x ∈ q, okI x) :
    Spec Try.prog 12 [sv vq] [] [sl 1 eI (sv vq) q] (X := Unit) (fun _ => True) (fun _ => .bool true) (fun _ => []) (fun _ => []) := by
  refine r_enter Try.func12 rfl Try.ntmps12 rfl fun w0 M H => ?_
  refine r_seq ?_
  refine r_region ?_
  refine r_p (p_assign rfl) rfl ?_
  refine r_nil ?_
  refine r_seq ?_
  refine r_region ?_
  refine r_call (xs := []) sanity_spec cb15 [] [] [] [] rfl rfl rfl rfl rfl rfl rfl rfl (fun _ _ => rfl) (fun _ _ _ => rfl) rfl (fun _ _ => ?_)
  refine r_p (p_assign rfl) rfl ?_
  refine r_nil ?_
  refine r_seq ?_
  refine r_region ?_
  refine r_p (p_move rfl) rfl ?_
  refine r_call (xs := [.tmp 13]) (made_spec vq q) cb31 [] [(false, 0)] [] [50] rfl rfl rfl rfl rfl rfl rfl rfl (fun _ _ => rfl) (fun _ _ _ => rfl) rfl (fun xa hxa => ?_)
  obtain ⟨xaa0, xaa1, xaa2, xaa3, xaa4, hxa⟩ := hxa
  have exa : xa.sn = madeF q := by rw [hxa]; exact madeS_sn _ _ _ _ _ _
  have oxa : xa.sn.Ok := by rw [exa]; exact made_ok _ (okI_xq hq)
  have lxa : (eSn xa.sn).length ≤ 1000 := by rw [exa]; exact made_len _
  have mxa : xa.Sm := Sp.Sm.of (by omega)
  clear hxa exa
  refine r_alloc t59 rfl rfl fun b4 => ?_
  refine r_store_all (k := 4) t59 rfl rfl rfl rfl rfl rfl ?_
  refine r_nil ?_
  refine r_seq ?_
  refine r_region ?_
  refine r_call (xs := [.const (.int .i64 120)]) (newdisk_spec 120) cb16 [] [] [60, 61, 62] [] rfl rfl rfl rfl rfl rfl rfl rfl (fun _ _ => rfl) (fun _ _ _ => rfl) rfl (fun d3 _ => ?_)
  obtain ⟨D, v, m⟩ := d3
  dsimp only
  refine r_conva (k := 62) (A' := own 9 1 eS (sv v) (List.replicate 120 zsec)) rfl (fun _ _ h => h) ?_
  obtain ⟨hg0, hh0⟩ := hold_new (S := 120) (by decide) (by decide)
  have hrm : rm 120 = 59 := rfl
  refine r_p (p_assign rfl) rfl ?_
  refine r_nil ?_
  refine r_seq ?_
  refine r_region ?_
  refine r_p (p_move rfl) rfl ?_
  refine r_call (xs := [.tmp 17]) (open_run D v m false 0 (List.replicate 120 zsec) hg0 hh0) cb30 [60, 61, 62] [] [63, 60, 61, 62] [52] rfl rfl rfl rfl rfl rfl rfl rfl (fun _ _ => rfl) (fun _ _ _ => rfl) rfl (fun j1 hj1 => ?_)
  obtain ⟨J, lst⟩ := j1
  dsimp only at hj1 ⊢
  have ml : lst.Sm := Sp.Sm.zero.congr hj1
  refine r_addG 64 (A := ownX 35 (acV D) nilS []) ownX_nil ?_
  refine r_p (p_move rfl) rfl ?_
  refine r_p (p_extract rfl rfl) rfl ?_
  refine r_p (p_extract rfl rfl) rfl ?_
  refine r_p (p_assign rfl) rfl ?_
  refine r_p (p_assign rfl) rfl ?_
  refine r_nil ?_
  refine r_seq ?_
  refine r_seq ?_
  refine r_region ?_
  refine r_p (p_move rfl) rfl ?_
  refine r_p (p_bin rfl rfl (b_eqPn Try.underlying49)) rfl ?_
  refine r_p (p_move rfl) rfl ?_
  refine r_split (t := 23) rfl (fun h1 => False.elim (by simp at h1)) (fun h1 => ?_)
  refine r_gyes rfl rfl ?_
  refine r_p (p_move rfl) rfl ?_
  refine r_gyes rfl rfl ?_
  refine r_p (p_bin rfl rfl b_ne) rfl ?_
  refine r_p (p_pick rfl rfl rfl (by first | exact pick_and | exact pick_or |  rfl)) rfl ?_
  refine r_nil ?_
  refine r_cond rfl (fun h2 => ?_) (fun h2 => ?_)
  · exact absurd h2 (by simp)
  · (try simp only [decide_eq_true_eq, decide_eq_false_iff_not, Bool.and_eq_true, Bool.or_eq_true, Bool.and_eq_false_iff, Bool.or_eq_false_iff, Bool.not_eq_true, Bool.not_eq_false, Bool.not_eq_true', Bool.not_eq_false', Bool.not_not, bne_iff_ne, beq_iff_eq] at h2)
    refine r_skip ?_
    refine r_seq ?_
    refine r_region ?_
    refine r_p (p_move rfl) rfl ?_
    refine r_call (xs := [.tmp 27, .const (.int .i64 0)]) (arm_spec D v (some m) false false 0 0) cb23 [60] [] [60] [] rfl rfl rfl rfl rfl rfl rfl rfl (fun _ _ => rfl) (fun _ _ _ => rfl) rfl (fun _ _ => ?_)
    refine r_conva (k := 60) (A' := row D 94 (dC v (some m) false true 0)) rfl (fun _ _ h => h) ?_
    refine r_nil ?_
    refine r_seq ?_
    refine r_seq ?_
    refine r_region ?_
    refine r_p (p_move rfl) rfl ?_
    refine r_p (p_loadA t59 rfl rfl rfl (g_all (k := 4) rfl)) rfl ?_
    refine r_call (xs := [.tmp 29, .tmp 30]) (begin_ok J D lst 0 zSp nilS v m false true 0 (List.replicate 120 zsec) (by decide) (by rw [hg0.len]; decide) (by rw [hg0.len]; decide) xa oxa (by omega) (by rw [hg0.len]; show (eSn xa.sn).length ≤ rm 120 * 64; omega)) cb42 [63, 64, 60, 62] [(false, 50)] [63, 64, 60, 62] [54, 55] rfl rfl rfl rfl rfl rfl rfl rfl (fun _ _ => rfl) (fun _ _ _ => rfl) rfl (fun t ht => ?_)
    obtain ⟨z, vt, todo⟩ := t
    obtain ⟨hz1, hz2⟩ := ht
    dsimp only at hz1 hz2 ⊢
    rw [hg0.len] at hz2
    have hF : Fits 120 (ofI (eSn xa.sn)) xa.sn := fits_of oxa (by omega) (by omega)
    have hnbk : nbk (ofI (eSn xa.sn)) ≤ 16 := by unfold nbk; rw [ofI_size]; omega
    have hosz : (ofI (eSn xa.sn)).size = (eSn xa.sn).length := ofI_size _
    refine r_p (p_bin rfl rfl b_ne) rfl ?_
    refine r_nil ?_
    refine r_cond rfl (fun h3 => ?_) (fun h3 => ?_)
    · exact absurd h3 (by simp)
    · (try simp only [decide_eq_true_eq, decide_eq_false_iff_not, Bool.and_eq_true, Bool.or_eq_true, Bool.and_eq_false_iff, Bool.or_eq_false_iff, Bool.not_eq_true, Bool.not_eq_false, Bool.not_eq_true', Bool.not_eq_false', Bool.not_not, bne_iff_ne, beq_iff_eq] at h3)
      refine r_skip ?_
      refine r_seq ?_
      refine r_region ?_
      refine r_p (p_loadA t59 rfl rfl rfl (g_all (k := 4) rfl)) rfl ?_
      refine r_call (xs := [.tmp 33]) (bytes_spec xa oxa (by omega)) cb32 [] [(false, 50)] [] [] rfl rfl rfl rfl rfl rfl rfl rfl (fun _ _ => rfl) (fun _ _ _ => rfl) rfl (fun _ _ => ?_)
      refine r_p (p_len_str Try.underlying9 rfl) rfl ?_
      refine r_p (p_bin rfl rfl (b_add (by first | exact w_i64 (by omega) (by omega) | rfl))) rfl ?_
      refine r_p (p_bin rfl rfl (b_quo (c := ((nbk (ofI (eSn xa.sn)) : Nat) : Int)) (by decide) (by unfold nbk; rw [Int.tdiv_eq_ediv_of_nonneg (by omega)]; exact (w_i64 (by omega) (by omega)).trans (by omega)))) rfl ?_
      refine r_p (p_bin rfl rfl (b_add (by first | exact w_i64 (by omega) (by omega) | rfl))) rfl ?_
      refine r_p (p_assign rfl) rfl ?_
      refine r_nil ?_
      refine r_seq ?_
      refine r_seq ?_
      refine r_region ?_
      refine r_p (p_assign rfl) rfl ?_
      refine r_nil ?_
      refine r_block ?_
      refine r_loop (X := Wst) (fun w => WOk 0 120 zSp.sn (ofI (eSn xa.sn)) w ∧ 0 < w.todo.length) (fun w => [(3, .bool true), (5, .pointer (some ⟨D, 0, none⟩)), (6, .pointer (some ⟨J, 0, none⟩)), (8, .int .i64 (((nbk (ofI (eSn xa.sn)) : Nat) : Int) + 3)), (9, .int .i64 (w.i : Int))]) (fun w => [(63, row J 100 (jC D lst 0 z w.vt)), (64, ownX 35 (acV D) w.vt w.todo), (60, row D 94 (dC v (some m) false true 0)), (61, mp mkI Prod.fst vS (some m) w.fr), (62, own 9 1 eS (sv v) w.dur)]) (fun w => [(54, snA z), (55, actsA J w.todo)]) (fun w => w.todo.length) ⟨0, todo, vt, 0, List.replicate 120 zsec, []⟩ ⟨⟨hg0, hh0, by show Phase 0 120 _ _ [] 0 (todo.map Ac.plain); rw [hz2]; exact phase_init⟩, by show 0 < todo.length; have := congrArg List.length hz2; rw [List.length_map, plan_eq, List.length_append] at this; simp at this; omega⟩ rfl rfl rfl (fun w hw0 => ?_)
      obtain ⟨hw, hw1⟩ := hw0
      obtain ⟨i, todo, vw, lw, dw, fw⟩ := w
      obtain ⟨a, rest, rfl⟩ : ∃ a rest, todo = a :: rest := by
        cases todo with
        | nil => simp at hw1
        | cons a rest => exact ⟨a, rest, rfl⟩
      have hpl := hw.ph.len
      have hpl2 : ((a :: rest).map Ac.plain).length = rest.length + 1 := by simp
      dsimp only at hpl ⊢
      refine r_seq ?_
      refine r_seq ?_
      refine r_region ?_
      refine r_p (p_move rfl) rfl ?_
      refine r_p (p_move rfl) rfl ?_
      refine r_p (p_bin rfl rfl b_lt) rfl ?_
      refine r_nil ?_
      refine r_cond rfl (fun h4 => ?_) (fun h4 => ?_)
      · (try simp only [decide_eq_true_eq, decide_eq_false_iff_not, Bool.and_eq_true, Bool.or_eq_true, Bool.and_eq_false_iff, Bool.or_eq_false_iff, Bool.not_eq_true, Bool.not_eq_false, Bool.not_eq_true', Bool.not_eq_false', Bool.not_not, bne_iff_ne, beq_iff_eq] at h4)
        refine r_skip ?_
        refine r_seq ?_
        refine r_block ?_
        refine r_seq ?_
        refine r_region ?_
        refine r_p (p_move rfl) rfl ?_
        refine r_call (xs := [.tmp 44, .const (.int .i64 1)]) (arm_spec D v (some m) false true 0 1) cb23 [60] [] [60] [] rfl rfl rfl rfl rfl rfl rfl rfl (fun _ _ => rfl) (fun _ _ _ => rfl) rfl (fun _ _ => ?_)
        refine r_conva (k := 60) (A' := row D 94 (dC v (some m) false true 1)) rfl (fun _ _ h => h) ?_
        refine r_nil ?_
        refine r_seq ?_
        refine r_region ?_
        refine r_p (p_move rfl) rfl ?_
        refine r_call (xs := [.tmp 47]) (step_run J D lst 0 z vw v m false true 1 dw fw a rest (by decide) hw.geo hw.hold hF hw.ph) cb43 [63, 64, 60, 61, 62] [(false, 55)] [63, 64, 60, 61, 62] [] rfl rfl rfl rfl rfl rfl rfl rfl (fun _ _ => rfl) (fun _ _ _ => rfl) rfl (fun y hy => ?_)
        obtain ⟨so, d⟩ := y
        obtain ⟨hst, hso⟩ := hy
        dsimp only at hst hso ⊢
        have hde : d.e = 0 := hst.he.trans (if_neg (by simp [pwO]))
        have hdo : d.off = false := hst.ho
        have hgd := hst.good rfl
        rw [hde] at hso
        have hdl : d.left = 0 := hst.hl.trans rfl
        refine r_p (p_move rfl) rfl ?_
        refine r_p (p_extract rfl rfl) rfl ?_
        refine r_p (p_extract rfl rfl) rfl ?_
        refine r_p (p_assign rfl) rfl ?_
        refine r_p (p_assign rfl) rfl ?_
        refine r_nil ?_
        refine r_seq ?_
        refine r_seq ?_
        refine r_region ?_
        refine r_p (p_move rfl) rfl ?_
        refine r_p (p_bin rfl rfl b_ne) rfl ?_
        refine r_nil ?_
        refine r_cond rfl (fun h5 => ?_) (fun h5 => ?_)
        · (exact absurd h5 (by rw [hso, stepO_e0]; simp))
        · (try simp only [decide_eq_true_eq, decide_eq_false_iff_not, Bool.and_eq_true, Bool.or_eq_true, Bool.and_eq_false_iff, Bool.or_eq_false_iff, Bool.not_eq_true, Bool.not_eq_false, Bool.not_eq_true', Bool.not_eq_false', Bool.not_not, bne_iff_ne, beq_iff_eq] at h5)
          refine r_skip ?_
          refine r_seq ?_
          refine r_region ?_
          refine r_p (p_move rfl) rfl ?_
          refine r_nil ?_
          refine r_cond rfl (fun h6 => ?_) (fun h6 => ?_)
          · have hr : rest = [] := by
              rw [hso, stepO_done] at h6
              have : ¬ 0 < rest.length := by simpa using h6
              exact List.eq_nil_of_length_eq_zero (by omega)
            subst hr
            rw [stepO_last] at hso
            subst hso
            have hgl := hgd.2.resolve_left (fun h => h.1 rfl)
            refine r_conva (k := 60) (A' := row D 94 (dC v (some m) false true 0)) rfl (fun _ _ h => by rw [← hdo, ← hdl]; exact h) ?_
            refine r_conva (k := 61) (A' := mp mkI Prod.fst vS (some m) []) rfl (fun _ _ h => by rw [← hgl.2.1]; exact h) ?_
            refine r_seq ?_
            refine r_region ?_
            refine r_p (p_move rfl) rfl ?_
            refine r_p (p_move rfl) rfl ?_
            refine r_split (t := 55) rfl (fun h7 => ?_) (fun h7 => False.elim (by simp at h7))
            refine r_gyes rfl rfl ?_
            refine r_p (p_move rfl) rfl ?_
            refine r_gyes rfl rfl ?_
            refine r_call (xs := [.tmp 56]) (sync_on D v m true 0 d.dur [] (by simp)) cb21 [60, 61, 62] [] [60, 61, 62] [] rfl rfl rfl rfl rfl rfl rfl rfl (fun _ _ => rfl) (fun _ _ _ => rfl) rfl (fun _ _ => ?_)
            refine r_gyes rfl rfl ?_
            refine r_p (p_bin rfl rfl b_eq) rfl ?_
            refine r_p (p_pick rfl rfl rfl (by first | exact pick_and | exact pick_or |  rfl)) rfl ?_
            refine r_p (p_assign rfl) rfl ?_
            refine r_nil ?_
            refine r_cret ?_
            refine r_ret () trivial rfl (rs1 (rv_tmp rfl)) rfl [] [] rfl rfl rfl
          · have hr : 0 < rest.length := by
              rw [hso, stepO_done] at h6
              simpa using h6
            rw [stepO_more hr] at hso
            subst hso
            have hgm := hgd.2.resolve_right (fun h => by have := h.1; rw [List.map_eq_nil_iff] at this; rw [this] at hr; simp at hr)
            refine r_skip ?_
            refine r_region ?_
            refine r_p (p_move rfl) rfl ?_
            refine r_p (p_bin rfl rfl (b_add (by first | exact w_i64 (by omega) (by omega) | rfl))) rfl ?_
            refine r_p (p_assign rfl) rfl ?_
            refine r_nil ?_
            refine r_more 55 55 rfl (actsA_sub (l' := rest) fun c hc => List.mem_cons_of_mem _ hc) ?_
            refine r_here ⟨i + 1, rest, loS vw 1 1, d.left, d.dur, d.fr⟩ ⟨⟨⟨hgd.1, hgm.2.1, hgm.2.2⟩, hr⟩, by simp⟩ rfl (by rw [hdo, hdl]; rfl) rfl
      · (simp at h4; omega)

end Go.Proofs.Ytohenjmkhncoiaa
