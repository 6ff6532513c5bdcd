/-
  The journal: a whole checkpoint. Conditions: sizes.
-/
import Derived.Test.YtohenjmkhncoiaaYX
namespace Go.Proofs.Ytohenjmkhncoiaa
set_option linter.unusedSimpArgs false
set_option linter.unusedVariables false
open Go.RowKit

theorem stepO_e0 (lst : Sp) (n : Int) (nxt : Sp) (vt : SV) (a : Ac) (rest : List Ac) : (stepO lst n nxt vt a rest 0).e = 0 := by
  unfold stepO
  rw [if_neg (by simp)]
  split <;> rfl
theorem stepO_done (lst : Sp) (n : Int) (nxt : Sp) (vt : SV) (a : Ac) (rest : List Ac) : (stepO lst n nxt vt a rest 0).done = !decide (0 < rest.length) := by
  unfold stepO
  rw [if_neg (by simp)]
  by_cases h : 0 < rest.length
  · rw [if_pos h, decide_eq_true h]; rfl
  · rw [if_neg h, decide_eq_false h]; rfl
theorem stepO_more {lst : Sp} {n : Int} {nxt : Sp} {vt : SV} {a : Ac} {rest : List Ac} (h : 0 < rest.length) : stepO lst n nxt vt a rest 0 = ⟨false, 0, lst, nxt, n, loS vt 1 1, rest⟩ := by
  unfold stepO
  rw [if_neg (by simp), if_pos h]
theorem stepO_last {lst : Sp} {n : Int} {nxt : Sp} {vt : SV} {a : Ac} : stepO lst n nxt vt a [] 0 = ⟨true, 0, nxt, nxt, n + 1, loS vt 1 1, []⟩ := by
  unfold stepO
  rw [if_neg (by simp), if_neg (by simp)]
theorem stepO_err {lst : Sp} {n : Int} {nxt : Sp} {vt : SV} {a : Ac} {rest : List Ac} : stepO lst n nxt vt a rest 50 = ⟨false, 50, lst, nxt, n, vt, a :: rest⟩ := by
  unfold stepO
  rw [if_pos (by decide)]
set_option maxRecDepth 100000 in
theorem step_run (J D : Nat) (lst : Sp) (n : Int) (nxt : Sp) (vt : SV) (v : SV) (m : Nat) (off armed : Bool) (left : Int) (dur : List ByteArray) (fr : List (Int × ByteArray)) (a : Ac) (rest : List Ac) {S : Nat} {s s' : Sn} {body : ByteArray} {i : Nat} (hn : 0 ≤ n ∧ n ≤ 1000000000) (hg : Geo dur S) (hh : Hold (view dur) (rm S) n s) (hF : Fits S body s') (hp : Phase n S body dur fr i ((a :: rest).map Ac.plain)) :
    Spec Try.prog 43 [.pointer (some ⟨J, 0, none⟩)] [row J 100 (jC D lst n nxt vt), ownX 35 (acV D) vt (a :: rest), row D 94 (dC v (some m) off armed left), mp mkI Prod.fst vS (some m) fr, own 9 1 eS (sv v) dur] [actsA J (a :: rest)] (X := So × DR) (fun x => StepG S off armed left n s s' body dur fr i (rest.map Ac.plain) x.2 ∧ x.1 = stepO lst n nxt vt a rest x.2.e) (fun x => .tuple #[.bool x.1.done, .int .i64 x.1.e]) (fun x => [row J 100 (jC D x.1.lst x.1.n x.1.nxt x.1.vt), ownX 35 (acV D) x.1.vt x.1.todo, row D 94 (dC v (some m) x.2.off armed x.2.left), mp mkI Prod.fst vS (some m) x.2.fr, own 9 1 eS (sv v) x.2.dur]) (fun _ => []) := by
  have hr := hp.range hg.lo hF.nb
  rw [← hg.len] at hr
  refine (step_spec J D lst n nxt vt v m off armed left dur fr rest hn hr a).mono fun l hl => ?_
  exact ⟨(stepO lst n nxt vt a rest (dstep off armed left dur fr a.plain l).e, (dstep off armed left dur fr a.plain l)), ⟨step_good hg hh hF hn.2 hp hl, rfl⟩, rfl, rfl, rfl⟩

/-- A checkpoint on its way, in the heap. -/
structure Wst where
  i : Nat
  todo : List Ac
  vt : SV
  left : Int
  dur : List ByteArray
  fr : List (Int × ByteArray)
structure WOk (n : Int) (S : Nat) (s : Sn) (body : ByteArray) (x : Wst) : Prop where
  geo : Geo x.dur S
  hold : Hold (view x.dur) (rm S) n s
  ph : Phase n S body x.dur x.fr x.i (x.todo.map Ac.plain)
theorem geo_size {dur : List ByteArray} {S : Nat} (h : Geo dur S) : ∀ k : Nat, k < dur.length → (cnt dur [] k).size = 64 := fun k hk => by
  have := view_get hk
  unfold view at this
  rw [this]
  exact h.sz k (by rw [← h.len]; exact hk)

set_option maxHeartbeats 4000000 in
set_option maxRecDepth 100000 in
theorem written_spec (J D : Nat) (lst : Sp) (n : Int) (nxt : Sp) (vt : SV) (v : SV) (m : Nat) (left : Int) (dur : List ByteArray) {S : Nat} {s0 : Sn} (hn : 0 ≤ n ∧ n ≤ 1000000000) (hg : Geo dur S) (hh : Hold (view dur) (rm S) n s0) (x : Sp) (hok : x.sn.Ok) (hlen : (eSn x.sn).length ≤ 100000) (hfit : (eSn x.sn).length ≤ rm S * 64) :
    Spec Try.prog 37 [.pointer (some ⟨J, 0, none⟩), snV x] [row J 100 (jC D lst n nxt vt), ownX 35 (acV D) vt [], row D 94 (dC v (some m) false false left), mp mkI Prod.fst vS (some m) [], own 9 1 eS (sv v) dur] [snA x] (X := Sp × SV × Int × List ByteArray) (fun y => y.1.sn = x.sn ∧ Geo y.2.2.2 S ∧ Hold (view y.2.2.2) (rm S) (n + 1) x.sn) (fun _ => .bool true) (fun y => [row J 100 (jC D y.1 (n + 1) y.1 y.2.1), ownX 35 (acV D) y.2.1 [], row D 94 (dC v (some m) false false y.2.2.1), mp mkI Prod.fst vS (some m) [], own 9 1 eS (sv v) y.2.2.2]) (fun y => [snA y.1]) := by
  refine r_enter Try.func37 rfl Try.ntmps37 rfl fun w0 M H => ?_
  refine r_mv 3 43 rfl rfl ?_
  refine r_mv 4 44 rfl rfl ?_
  have hF : Fits S (ofI (eSn x.sn)) x.sn := fits_of hok hfit hlen
  have hlen2 := hg.len
  have hlo := hg.lo
  have hhi := hg.hi
  have hnb := hF.nb
  have hrm : rm S = (S - 2) / 2 := rfl
  have hosz : (ofI (eSn x.sn)).size = (eSn x.sn).length := ofI_size _
  refine r_seq ?_
  refine r_region ?_
  refine r_boxA rfl rfl fun b3 => ?_
  refine r_p (p_assign rfl) rfl ?_
  refine r_nil ?_
  refine r_seq ?_
  refine r_region ?_
  refine r_p (p_move rfl) rfl ?_
  refine r_p (p_loadA t59 rfl rfl rfl (g_all (k := 3) rfl)) rfl ?_
  refine r_call (xs := [.tmp 9, .tmp 10]) (begin_ok J D lst n nxt vt v m false false left dur hn (by omega) (by omega) x hok hlen (by rw [hlen2]; exact hfit)) cb42 [0, 1, 2, 44] [(false, 0)] [0, 1, 2, 44] [20, 31] rfl rfl rfl rfl rfl rfl rfl rfl (fun _ _ => rfl) (fun _ _ _ => rfl) rfl (fun z hz => ?_)
  obtain ⟨hz1, hz2⟩ := hz
  rw [hlen2] at hz2
  refine r_p (p_assign rfl) rfl ?_
  refine r_nil ?_
  refine r_seq ?_
  refine r_seq ?_
  refine r_region ?_
  refine r_p (p_move rfl) rfl ?_
  refine r_p (p_bin rfl rfl b_ne) rfl ?_
  refine r_nil ?_
  refine r_cond rfl (fun h1 => ?_) (fun h1 => ?_)
  · (exact absurd h1 (by simp))
  · (try simp only [decide_eq_true_eq, decide_eq_false_iff_not, Bool.and_eq_true, Bool.or_eq_true, Bool.and_eq_false_iff, Bool.or_eq_false_iff, Bool.not_eq_true, Bool.not_eq_false, Bool.not_eq_true', Bool.not_eq_false', Bool.not_not, bne_iff_ne, beq_iff_eq] at h1)
    refine r_skip ?_
    refine r_seq ?_
    refine r_seq ?_
    refine r_region ?_
    refine r_p (p_assign rfl) rfl ?_
    refine r_nil ?_
    refine r_block ?_
    refine r_loop (X := Wst) (fun w => WOk n S s0 (ofI (eSn x.sn)) w ∧ 0 < w.todo.length) (fun w => [(0, .pointer (some ⟨J, 0, none⟩)), (6, .int .i64 (w.i : Int))]) (fun w => [(0, row J 100 (jC D lst n z.1 w.vt)), (1, ownX 35 (acV D) w.vt w.todo), (2, row D 94 (dC v (some m) false false w.left)), (43, mp mkI Prod.fst vS (some m) w.fr), (44, own 9 1 eS (sv v) w.dur)]) (fun w => [(20, snA z.1), (31, actsA J w.todo)]) (fun w => w.todo.length) ⟨0, z.2.2, z.2.1, left, dur, []⟩ ⟨⟨hg, hh, by show Phase n S _ dur [] 0 (z.2.2.map Ac.plain); rw [hz2]; exact phase_init⟩, by show 0 < z.2.2.length; have := congrArg List.length hz2; rw [List.length_map, plan_eq, List.length_append] at this; simp at this; omega⟩ rfl rfl rfl (fun w hw0 => ?_)
    obtain ⟨hw, hw1⟩ := hw0
    obtain ⟨i, todo, vw, lw, dw, fw⟩ := w
    obtain ⟨a, rest, rfl⟩ : ∃ a rest, todo = a :: rest := by
      cases todo with
      | nil => simp at hw1
      | cons a rest => exact ⟨a, rest, rfl⟩
    have hpl := hw.ph.len
    have hpl2 : ((a :: rest).map Ac.plain).length = rest.length + 1 := by simp
    unfold nbk at hnb hpl
    dsimp only at hpl ⊢
    refine r_seq ?_
    refine r_seq ?_
    refine r_region ?_
    refine r_p (p_move rfl) rfl ?_
    refine r_p (p_bin rfl rfl b_lt) rfl ?_
    refine r_nil ?_
    refine r_cond rfl (fun h2 => ?_) (fun h2 => ?_)
    · (try simp only [decide_eq_true_eq, decide_eq_false_iff_not, Bool.and_eq_true, Bool.or_eq_true, Bool.and_eq_false_iff, Bool.or_eq_false_iff, Bool.not_eq_true, Bool.not_eq_false, Bool.not_eq_true', Bool.not_eq_false', Bool.not_not, bne_iff_ne, beq_iff_eq] at h2)
      refine r_skip ?_
      refine r_seq ?_
      refine r_block ?_
      refine r_seq ?_
      refine r_region ?_
      refine r_p (p_move rfl) rfl ?_
      refine r_call (xs := [.tmp 19]) (step_run J D lst n z.1 vw v m false false lw dw fw a rest hn hw.geo hw.hold hF hw.ph) cb43 [0, 1, 2, 43, 44] [(false, 31)] [0, 1, 2, 43, 44] [] rfl rfl rfl rfl rfl rfl rfl rfl (fun _ _ => rfl) (fun _ _ _ => rfl) rfl (fun y hy => ?_)
      obtain ⟨so, d⟩ := y
      obtain ⟨hst, hso⟩ := hy
      dsimp only at hst hso ⊢
      have hde : d.e = 0 := hst.he.trans (if_neg (by simp [pwO]))
      have hdo : d.off = false := hst.ho
      have hgd := hst.good rfl
      rw [hde] at hso
      refine r_p (p_move rfl) rfl ?_
      refine r_p (p_extract rfl rfl) rfl ?_
      refine r_p (p_extract rfl rfl) rfl ?_
      refine r_p (p_assign rfl) rfl ?_
      refine r_p (p_assign rfl) rfl ?_
      refine r_nil ?_
      refine r_seq ?_
      refine r_seq ?_
      refine r_region ?_
      refine r_p (p_move rfl) rfl ?_
      refine r_p (p_bin rfl rfl b_ne) rfl ?_
      refine r_nil ?_
      refine r_cond rfl (fun h3 => ?_) (fun h3 => ?_)
      · (exact absurd h3 (by rw [hso, stepO_e0]; simp))
      · (try simp only [decide_eq_true_eq, decide_eq_false_iff_not, Bool.and_eq_true, Bool.or_eq_true, Bool.and_eq_false_iff, Bool.or_eq_false_iff, Bool.not_eq_true, Bool.not_eq_false, Bool.not_eq_true', Bool.not_eq_false', Bool.not_not, bne_iff_ne, beq_iff_eq] at h3)
        refine r_skip ?_
        refine r_seq ?_
        refine r_region ?_
        refine r_p (p_move rfl) rfl ?_
        refine r_nil ?_
        refine r_cond rfl (fun h4 => ?_) (fun h4 => ?_)
        · have hr : rest = [] := by
            rw [hso, stepO_done] at h4
            have : ¬ 0 < rest.length := by simpa using h4
            exact List.eq_nil_of_length_eq_zero (by omega)
          subst hr
          rw [stepO_last] at hso
          subst hso
          have hgl := hgd.2.resolve_left (fun h => h.1 rfl)
          refine r_seq ?_
          refine r_region ?_
          refine r_p (p_assign rfl) rfl ?_
          refine r_nil ?_
          refine r_cret ?_
          refine r_ret (z.1, loS vw 1 1, d.left, d.dur) ⟨hz1, hgd.1, hgl.2.2⟩ rfl (rs1 (rv_tmp rfl)) rfl [0, 1, 2, 43, 44] [20] rfl (by rw [hdo, hgl.2.1]; rfl) rfl
        · have hr : 0 < rest.length := by
            rw [hso, stepO_done] at h4
            simpa using h4
          rw [stepO_more hr] at hso
          subst hso
          have hgm := hgd.2.resolve_right (fun h => by have := h.1; rw [List.map_eq_nil_iff] at this; rw [this] at hr; simp at hr)
          refine r_skip ?_
          refine r_region ?_
          refine r_p (p_move rfl) rfl ?_
          refine r_p (p_bin rfl rfl (b_add (by first | exact w_i64 (by omega) (by omega) | rfl))) rfl ?_
          refine r_p (p_assign rfl) rfl ?_
          refine r_nil ?_
          refine r_more 31 31 rfl (actsA_sub (l' := rest) fun c hc => List.mem_cons_of_mem _ hc) ?_
          refine r_here ⟨i + 1, rest, loS vw 1 1, d.left, d.dur, d.fr⟩ ⟨⟨⟨hgd.1, hgm.2.1, hgm.2.2⟩, hr⟩, by simp⟩ rfl (by rw [hdo]; rfl) rfl
    · (simp at h2; omega)

end Go.Proofs.Ytohenjmkhncoiaa
