/-
  Histories: opening again, beginning. Conditions: few.
-/
import Derived.Test.YtohenjmkhncoiaaP4
namespace Go.Proofs.Ytohenjmkhncoiaa
set_option linter.unusedSimpArgs false
set_option linter.unusedVariables false
open Go.RowKit

set_option maxRecDepth 100000 in
theorem hsteps_spec (h D : Nat) (v : SV) (m : Nat) (S c : Nat) (x : Hs) (hx : HI S c x) (hc : c ≤ 1000) (many : Int) (hm : 0 ≤ many ∧ many ≤ 1000) : Spec Try.prog 40 [.pointer (some ⟨h, 0, none⟩), .int .i64 many] [row h 77 (hC D x.J x.s x.nx x.n x.busy x.stepped x.off), row x.J 100 (jC D x.jl x.n x.jx x.vt), ownX 35 (acV D) x.vt x.todo, row D 94 (dC v (some m) x.off x.armed x.left), mp mkI Prod.fst vS (some m) x.fr, own 9 1 eS (sv v) x.dur] [snA x.s, snA x.nx, snA x.jl, snA x.jx, actsA x.J x.todo] (X := Hs) (fun y => HI S (c + 1) y) (fun _ => .bool true) (fun y => [row h 77 (hC D y.J y.s y.nx y.n y.busy y.stepped y.off), row y.J 100 (jC D y.jl y.n y.jx y.vt), ownX 35 (acV D) y.vt y.todo, row D 94 (dC v (some m) y.off y.armed y.left), mp mkI Prod.fst vS (some m) y.fr, own 9 1 eS (sv v) y.dur]) (fun y => [snA y.s, snA y.nx, snA y.jl, snA y.jx, actsA y.J y.todo]) := by
  by_cases hb : x.busy = true
  · exact hsteps_busy h D v m S c x hx hc many hm hb
  · exact (hsteps_idle h D v m S c x hx hc many hm (by simpa using hb)).mono fun y hy => ⟨y, by rw [hy]; exact hx.mono (Nat.le_succ c), rfl, rfl, rfl⟩
theorem last_self {n : Int} (hn : 0 ≤ n) {ls s : Sn} (h : ls = s) : lastB n ls s n = true := by
  unfold lastB
  by_cases h0 : n = 0
  · rw [if_pos h0]; simp [h0]
  · rw [if_neg h0]; simp [h]
theorem last_next {n : Int} (hn : 0 ≤ n) (ls s : Sn) : lastB (n + 1) ls s n = false := by
  unfold lastB
  by_cases h0 : n = 0
  · rw [if_pos h0]; simp; omega
  · rw [if_neg h0]; simp; intro h; omega

set_option maxHeartbeats 4000000 in
set_option maxRecDepth 100000 in
theorem hreopen_spec (h D : Nat) (v : SV) (m : Nat) (S c : Nat) (x : Hs) (hx : HI S c x) (hc : c ≤ 1000) (vq : SV) (q : List Int) :
    Spec Try.prog 41 [.pointer (some ⟨h, 0, none⟩), sv vq] [row h 77 (hC D x.J x.s x.nx x.n x.busy x.stepped x.off), row x.J 100 (jC D x.jl x.n x.jx x.vt), ownX 35 (acV D) x.vt x.todo, row D 94 (dC v (some m) x.off x.armed x.left), mp mkI Prod.fst vS (some m) x.fr, own 9 1 eS (sv v) x.dur] [snA x.s, snA x.nx, snA x.jl, snA x.jx, actsA x.J x.todo, slq vq q] (X := Hs) (fun y => HI S (c + 1) y) (fun _ => .bool true) (fun y => [row h 77 (hC D y.J y.s y.nx y.n y.busy y.stepped y.off), row y.J 100 (jC D y.jl y.n y.jx y.vt), ownX 35 (acV D) y.vt y.todo, row D 94 (dC v (some m) y.off y.armed y.left), mp mkI Prod.fst vS (some m) y.fr, own 9 1 eS (sv v) y.dur]) (fun y => [snA y.s, snA y.nx, snA y.jl, snA y.jx, actsA y.J y.todo]) := by
  refine r_enter Try.func41 rfl Try.ntmps41 rfl fun w0 M H => ?_
  obtain ⟨J, s, nx, n, busy, stepped, off, jl, jx, i, todo, vt, armed, left, dur, fr⟩ := x
  have hcr := hx.crash hc q
  obtain ⟨hgeo, hhold, hn0, hjl, hsm, hidle, hon⟩ := hx
  dsimp only at hcr hgeo hhold hn0 hjl hsm hidle hon ⊢
  have hlen := hgeo.len
  have hlo := hgeo.lo
  have hhi := hgeo.hi
  refine r_seq ?_
  refine r_region ?_
  refine r_p (p_assign rfl) rfl ?_
  refine r_nil ?_
  refine r_seq ?_
  refine r_region ?_
  refine r_p (p_move rfl) rfl ?_
  refine r_p (p_nilCheck rfl) rfl ?_
  refine r_p (p_field0 fo77_0 rfl) rfl ?_
  refine r_p (p_load1 t24 rfl rfl (g_row1 (k := 0) rfl rfl)) rfl ?_
  refine r_p (p_move rfl) rfl ?_
  refine r_call (xs := [.tmp 11, .tmp 12]) (crash_q D v m off armed left dur fr vq q (by omega)) cb25 [3, 4, 5] [(false, 5)] [3, 4, 5] [] rfl rfl rfl rfl rfl rfl rfl rfl (fun _ _ => rfl) (fun _ _ _ => rfl) rfl (fun _ _ => ?_)
  obtain ⟨dX, hdX⟩ : ∃ z, (sdN q (dur, fr, 0) dur.length).1 = z := ⟨_, rfl⟩
  rw [hdX] at hcr ⊢
  obtain ⟨hgX, hfX, nn, ss, hhX, hcase⟩ := hcr
  rw [hfX]
  refine r_nil ?_
  refine r_seq ?_
  refine r_region ?_
  refine r_p (p_move rfl) rfl ?_
  refine r_p (p_nilCheck rfl) rfl ?_
  refine r_p (p_field0 fo77_0 rfl) rfl ?_
  refine r_p (p_load1 t24 rfl rfl (g_row1 (k := 0) rfl rfl)) rfl ?_
  refine r_call (xs := [.tmp 18]) (open_run D v m false left dX hgX hhX) cb30 [3, 4, 5] [] [163, 3, 4, 5] [58] rfl rfl rfl rfl rfl rfl rfl rfl (fun _ _ => rfl) (fun _ _ _ => rfl) rfl (fun jx2 hjx2 => ?_)
  obtain ⟨J2, ls⟩ := jx2
  dsimp only at hjx2 ⊢
  refine r_addG 164 (A := ownX 35 (acV D) nilS []) ownX_nil ?_
  have hfine : (lastB nn ls.sn s.sn n = true ∧ nn = n ∧ ss = s.sn) ∨ (lastB nn ls.sn s.sn n = false ∧ nn = n + 1 ∧ ss = nx.sn ∧ busy = true ∧ stepped = true ∧ nx.Sm) := by
    rcases hcase with ⟨h1, h2⟩ | ⟨h1, h2, h3, h4⟩
    · exact .inl ⟨by rw [h1]; exact last_self hn0.1 (hjx2.trans h2), h1, h2⟩
    · exact .inr ⟨by rw [h1]; exact last_next hn0.1 _ _, h1, h2, h3, h4, (hon h3).2.2.2.2.1⟩
  have hls : ls.Sm := by
    rcases hfine with h | h
    · exact hsm.congr (hjx2.trans h.2.2)
    · exact h.2.2.2.2.2.congr (hjx2.trans h.2.2.1)
  refine r_addR 60 (A := snA zSp) (fun _ => snA_zero) ?_
  refine r_addR 61 (A := actsA J2 []) actsA_nil ?_
  refine r_p (p_move rfl) rfl ?_
  refine r_p (p_extract rfl rfl) rfl ?_
  refine r_p (p_extract rfl rfl) rfl ?_
  refine r_p (p_assign rfl) rfl ?_
  refine r_p (p_assign rfl) rfl ?_
  refine r_nil ?_
  refine r_seq ?_
  refine r_seq ?_
  refine r_region ?_
  refine r_p (p_move rfl) rfl ?_
  refine r_p (p_bin rfl rfl (b_eqPn Try.underlying49)) rfl ?_
  refine r_p (p_move rfl) rfl ?_
  refine r_split (t := 24) rfl (fun h1 => False.elim (by simp at h1)) (fun h1 => ?_)
  refine r_gyes rfl rfl ?_
  refine r_p (p_move rfl) rfl ?_
  refine r_gyes rfl rfl ?_
  refine r_p (p_bin rfl rfl b_ne) rfl ?_
  refine r_p (p_pick rfl rfl rfl (by first | exact pick_and | exact pick_or |  rfl)) rfl ?_
  refine r_p (p_move rfl) rfl ?_
  refine r_split (t := 28) rfl (fun h2 => False.elim (by simp at h2)) (fun h2 => ?_)
  refine r_gyes rfl rfl ?_
  refine r_p (p_move rfl) rfl ?_
  refine r_gyes rfl rfl ?_
  refine r_call (xs := [.tmp 29]) (busy_spec J2 D ls nn zSp nilS []) cb36 [] [(true, 163), (true, 164)] [] [] rfl rfl rfl rfl rfl rfl rfl rfl (fun _ _ => rfl) (fun _ _ _ => rfl) rfl (fun _ _ => ?_)
  refine r_p (p_pick rfl rfl rfl (by first | exact pick_and | exact pick_or |  rfl)) rfl ?_
  refine r_nil ?_
  refine r_cond rfl (fun h3 => ?_) (fun h3 => ?_)
  · exact absurd h3 (by simp)
  · (try simp only [decide_eq_true_eq, decide_eq_false_iff_not, Bool.and_eq_true, Bool.or_eq_true, Bool.and_eq_false_iff, Bool.or_eq_false_iff, Bool.not_eq_true, Bool.not_eq_false, Bool.not_eq_true', Bool.not_eq_false', Bool.not_not, bne_iff_ne, beq_iff_eq] at h3)
    refine r_skip ?_
    refine r_seq ?_
    refine r_region ?_
    refine r_p (p_move rfl) rfl ?_
    refine r_p (p_move rfl) rfl ?_
    refine r_p (p_nilCheck rfl) rfl ?_
    refine r_p (p_field0 fo77_1 rfl) rfl ?_
    refine r_store_row (k := 0) t49 rfl rfl rfl rfl rfl rfl rfl rfl ?_
    refine r_nil ?_
    refine r_seq ?_
    refine r_draw [36, 37, 38, 39, 40, 41, 42, 43, 44, 45, 7] _ rfl (stg_mem (V := [(0, 36, _), (1, 37, _), (2, 38, _), (3, 39, _), (4, 40, _), (5, 41, _), (6, 42, _), (7, 43, _), (8, 44, _)]) [0, 1, 2, 3, 4, 5, 6, 7, 8] 9 [9, 8, 7, 6, 5, 4, 3, 2, 1, 0] [10] (fun _ => [(10, 7, _)]) rfl rfl (prs_cons (pri rfl (p_move rfl)) (prs_cons (pri rfl (p_move rfl)) (prs_cons (pri rfl (p_nilCheck rfl)) (prs_cons (pri rfl (p_field0 fo77_2 rfl)) (prs_cons (pri rfl (p_loadA t59 rfl rfl rfl (g_row (us := (snC s)) (k := 0) rfl rfl))) (prs_cons (pri rfl (p_move rfl)) (prs_cons (pri rfl (p_nilCheck rfl)) (prs_cons (pri rfl (p_field0 fo77_4 rfl)) (prs_cons (pri rfl (p_load1 t3 rfl rfl (g_row1 (k := 0) rfl rfl))) prs_nil))))))))) rfl rfl rfl rfl rfl rfl rfl rfl rfl rfl rfl (fun _ _ => rfl) rfl (ms_call (xs := [.tmp 36, .tmp 40, .tmp 44]) (last_spec38 J2 D ls nn zSp nilS s n hls hsm) cb38 [] [(true, 163), (false, 58), (false, 0)] [] [] rfl rfl rfl rfl rfl rfl rfl rfl (fun _ _ => rfl) (fun _ _ _ => rfl)) (fun _ _ => stg_end [10] rfl rfl (prs_cons (pri rfl (p_assign rfl)) prs_nil) rfl rfl rfl ?_))
    refine r_seq ?_
    refine r_seq ?_
    rcases hfine with hf | hf
    · refine r_draw [46, 47, 48, 49, 50, 51, 52, 53, 54, 55, 56, 57, 58, 59, 60, 61, 62, 63, 64, 65, 66, 67, 68, 69, 70, 71, 72] _ rfl (stg_end (V := [(0, 46, _), (1, 47, _), (2, 48, _), (3, 49, _), (4, 50, _), (5, 51, _), (6, 52, _), (7, 53, _), (8, 54, _), (9, 55, _), (10, 56, _), (11, 57, _), (12, 58, _), (13, 59, _), (14, 60, _), (15, 61, _), (16, 62, _), (17, 63, _), (18, 64, _), (19, 65, _), (20, 66, _), (21, 67, _), (22, 68, _), (23, 69, _), (24, 70, _), (25, 71, _), (26, 72, _)]) [0, 1, 2, 3, 4, 5, 6, 7, 8, 9, 10, 11, 12, 13, 14, 15, 16, 17, 18, 19, 20, 21, 22, 23, 24, 25, 26] rfl rfl (prs_cons (pri rfl (p_move rfl)) (prs_cons (pri rfl (p_not rfl)) (prs_cons (pri rfl (p_move rfl)) (prs_cons (prig_n rfl rfl rfl (by rw [hf.1]; try rfl)) (prs_cons (prig_n rfl rfl rfl (by rw [hf.1]; try rfl)) (prs_cons (prig_n rfl rfl rfl (by rw [hf.1]; try rfl)) (prs_cons (prig_n rfl rfl rfl (by rw [hf.1]; try rfl)) (prs_cons (pri rfl (p_pick rfl rfl rfl (pick_f (by rw [hf.1]; try rfl)))) (prs_cons (pri rfl (p_move rfl)) (prs_cons (prig_n rfl rfl rfl rfl) (prs_cons (prig_n rfl rfl rfl rfl) (prs_cons (prig_n rfl rfl rfl rfl) (prs_cons (prig_n rfl rfl rfl rfl) (prs_cons (pri rfl (p_pick rfl rfl rfl (pick_f rfl))) (prs_cons (pri rfl (p_move rfl)) (prs_cons (prig_n rfl rfl rfl rfl) (prs_cons (prig_n rfl rfl rfl rfl) (prs_cons (prig_n rfl rfl rfl rfl) (prs_cons (prig_n rfl rfl rfl rfl) (prs_cons (prig_n rfl rfl rfl rfl) (prs_cons (prig_n rfl rfl rfl rfl) (prs_cons (prig_n rfl rfl rfl rfl) (prs_cons (prig_n rfl rfl rfl rfl) (prs_cons (prig_n rfl rfl rfl rfl) (prs_cons (prig_n rfl rfl rfl rfl) (prs_cons (prig_n rfl rfl rfl rfl) (prs_cons (pri rfl (p_pick rfl rfl rfl (pick_f rfl))) prs_nil))))))))))))))))))))))))))) rfl rfl rfl ?_)
      refine r_cond rfl (fun h4 => ?_) (fun h4 => ?_)
      · exact absurd h4 (by simp)
      · (try simp only [decide_eq_true_eq, decide_eq_false_iff_not, Bool.and_eq_true, Bool.or_eq_true, Bool.and_eq_false_iff, Bool.or_eq_false_iff, Bool.not_eq_true, Bool.not_eq_false, Bool.not_eq_true', Bool.not_eq_false', Bool.not_not, bne_iff_ne, beq_iff_eq] at h4)
        refine r_skip ?_
        refine r_seq ?_
        refine r_region ?_
        refine r_p (p_move rfl) rfl ?_
        refine r_p (p_nilCheck rfl) rfl ?_
        refine r_p (p_field0 fo77_5 rfl) rfl ?_
        refine r_store_row (k := 0) t4 rfl rfl rfl rfl rfl rfl rfl rfl ?_
        refine r_nil ?_
        refine r_seq ?_
        refine r_region ?_
        refine r_p (p_move rfl) rfl ?_
        refine r_p (p_nilCheck rfl) rfl ?_
        refine r_p (p_field0 fo77_7 rfl) rfl ?_
        refine r_store_row (k := 0) t4 rfl rfl rfl rfl rfl rfl rfl rfl ?_
        refine r_nil ?_
        refine r_seq ?_
        refine r_region ?_
        refine r_p (p_move rfl) rfl ?_
        refine r_p (p_assign rfl) rfl ?_
        refine r_nil ?_
        refine r_cret ?_
        refine r_ret (⟨J2, s, nx, n, false, stepped, false, ls, zSp, 0, [], nilS, false, left, dX, []⟩ : Hs) ⟨hgX, by rw [← hf.2.1, ← hf.2.2]; exact hhX, ⟨by dsimp only; omega, by dsimp only; omega⟩, hjx2.trans hf.2.2, hsm, fun _ => ⟨rfl, rfl, rfl⟩, fun h => by simp at h⟩ rfl (rs1 (rv_tmp rfl)) (congrArg Value.bool hf.1) [0, 163, 164, 3, 4, 5] [0, 1, 58, 60, 61] rfl (by rw [hf.2.1]; rfl) rfl
    · obtain ⟨hf1, hnn, hss, hbz, hstp, hnxm⟩ := hf
      subst hnn
      subst hbz
      subst hstp
      have hf : _ ∧ True := ⟨hf1, trivial⟩
      refine r_draw [46, 47, 48, 49, 50, 51, 52, 53, 54, 55, 56, 57, 58, 59, 60, 61, 62, 63, 64, 65, 66, 67, 68, 69, 70, 71, 72] _ rfl (stg_memg (V := [(0, 46, _), (1, 47, _), (2, 48, _), (3, 49, _), (4, 50, _), (5, 51, _), (6, 52, _), (7, 53, _), (8, 54, _), (9, 55, _), (10, 56, _), (11, 57, _), (12, 58, _), (13, 59, _), (14, 60, _), (15, 61, _), (16, 62, _), (17, 63, _), (18, 64, _), (19, 65, _), (20, 66, _), (21, 67, _), (22, 68, _), (23, 69, _), (24, 70, _)]) [0, 1, 2, 3, 4, 5, 6, 7, 8, 9, 10, 11, 12, 13, 14, 15, 16, 17, 18, 19, 20, 21, 22, 23, 24] 25 [25, 24, 23, 22, 21, 20, 19, 18, 17, 16, 15, 14, 13, 12, 11, 10, 9, 8, 7, 6, 5, 4, 3, 2, 1, 0] [26] (fun _ => [(26, 72, _)]) rfl rfl (prs_cons (pri rfl (p_move rfl)) (prs_cons (pri rfl (p_not rfl)) (prs_cons (pri rfl (p_move rfl)) (prs_cons (prig_y rfl rfl rfl (by rw [hf.1]; try rfl) (p_move rfl)) (prs_cons (prig_y rfl rfl rfl (by rw [hf.1]; try rfl) (p_nilCheck rfl)) (prs_cons (prig_y rfl rfl rfl (by rw [hf.1]; try rfl) (p_field0 fo77_5 rfl)) (prs_cons (prig_y rfl rfl rfl (by rw [hf.1]; try rfl) (p_load1 t4 rfl rfl (g_row1 (k := 0) rfl rfl))) (prs_cons (pri rfl (p_pick rfl rfl rfl (pick_t (by rw [hf.1]; try rfl)))) (prs_cons (pri rfl (p_move rfl)) (prs_cons (prig_y rfl rfl rfl rfl (p_move rfl)) (prs_cons (prig_y rfl rfl rfl rfl (p_nilCheck rfl)) (prs_cons (prig_y rfl rfl rfl rfl (p_field0 fo77_6 rfl)) (prs_cons (prig_y rfl rfl rfl rfl (p_load1 t4 rfl rfl (g_row1 (k := 0) rfl rfl))) (prs_cons (pri rfl (p_pick rfl rfl rfl (pick_t rfl))) (prs_cons (pri rfl (p_move rfl)) (prs_cons (prig_y rfl rfl rfl rfl (p_move rfl)) (prs_cons (prig_y rfl rfl rfl rfl (p_move rfl)) (prs_cons (prig_y rfl rfl rfl rfl (p_nilCheck rfl)) (prs_cons (prig_y rfl rfl rfl rfl (p_field0 fo77_3 rfl)) (prs_cons (prig_y rfl rfl rfl rfl (p_loadA t59 rfl rfl rfl (g_row (us := (snC nx)) (k := 0) rfl rfl))) (prs_cons (prig_y rfl rfl rfl rfl (p_move rfl)) (prs_cons (prig_y rfl rfl rfl rfl (p_nilCheck rfl)) (prs_cons (prig_y rfl rfl rfl rfl (p_field0 fo77_4 rfl)) (prs_cons (prig_y rfl rfl rfl rfl (p_load1 t3 rfl rfl (g_row1 (k := 0) rfl rfl))) (prs_cons (prig_y rfl rfl rfl rfl (p_bin rfl rfl (b_add (by first | exact w_i64 (by omega) (by omega) | rfl)))) prs_nil))))))))))))))))))))))))) rfl rfl rfl rfl rfl rfl rfl rfl rfl rfl rfl rfl (fun _ _ => rfl) rfl (ms_call (xs := [.tmp 61, .tmp 65, .tmp 70]) (last_is true J2 D ls (n + 1) zSp nilS nx (n + 1) hls hnxm (last_same (by omega) (hjx2.trans hss))) cb38 [] [(true, 163), (false, 58), (false, 1)] [] [] rfl rfl rfl rfl rfl rfl rfl rfl (fun _ _ => rfl) (fun _ _ _ => rfl)) (fun _ _ => stg_end [26] rfl rfl (prs_cons (pri rfl (p_pick rfl rfl rfl (pick_t rfl))) prs_nil) rfl rfl rfl ?_))
      refine r_cond rfl (fun h5 => ?_) (fun h5 => ?_)
      · (try simp only [decide_eq_true_eq, decide_eq_false_iff_not, Bool.and_eq_true, Bool.or_eq_true, Bool.and_eq_false_iff, Bool.or_eq_false_iff, Bool.not_eq_true, Bool.not_eq_false, Bool.not_eq_true', Bool.not_eq_false', Bool.not_not, bne_iff_ne, beq_iff_eq] at h5)
        refine r_seq ?_
        refine r_region ?_
        refine r_p (p_move rfl) rfl ?_
        refine r_p (p_move rfl) rfl ?_
        refine r_p (p_nilCheck rfl) rfl ?_
        refine r_p (p_field0 fo77_3 rfl) rfl ?_
        refine r_p (p_loadA t59 rfl rfl rfl (g_row (us := (snC nx)) (k := 0) rfl rfl)) rfl ?_
        refine r_p (p_nilCheck rfl) rfl ?_
        refine r_p (p_field0 fo77_2 rfl) rfl ?_
        refine r_store_row (k := 0) t59 rfl rfl rfl rfl rfl rfl rfl rfl ?_
        refine r_nil ?_
        refine r_seq ?_
        refine r_region ?_
        refine r_p (p_move rfl) rfl ?_
        refine r_p (p_move rfl) rfl ?_
        refine r_p (p_nilCheck rfl) rfl ?_
        refine r_p (p_field0 fo77_4 rfl) rfl ?_
        refine r_p (p_load1 t3 rfl rfl (g_row1 (k := 0) rfl rfl)) rfl ?_
        refine r_p (p_bin rfl rfl (b_add (by first | exact w_i64 (by omega) (by omega) | rfl))) rfl ?_
        refine r_p (p_nilCheck rfl) rfl ?_
        refine r_p (p_field0 fo77_4 rfl) rfl ?_
        refine r_store_row (k := 0) t3 rfl rfl rfl rfl rfl rfl rfl rfl ?_
        refine r_nil ?_
        refine r_region ?_
        refine r_p (p_assign rfl) rfl ?_
        refine r_nil ?_
        refine r_seq ?_
        refine r_region ?_
        refine r_p (p_move rfl) rfl ?_
        refine r_p (p_nilCheck rfl) rfl ?_
        refine r_p (p_field0 fo77_5 rfl) rfl ?_
        refine r_store_row (k := 0) t4 rfl rfl rfl rfl rfl rfl rfl rfl ?_
        refine r_nil ?_
        refine r_seq ?_
        refine r_region ?_
        refine r_p (p_move rfl) rfl ?_
        refine r_p (p_nilCheck rfl) rfl ?_
        refine r_p (p_field0 fo77_7 rfl) rfl ?_
        refine r_store_row (k := 0) t4 rfl rfl rfl rfl rfl rfl rfl rfl ?_
        refine r_nil ?_
        refine r_seq ?_
        refine r_region ?_
        refine r_p (p_move rfl) rfl ?_
        refine r_p (p_assign rfl) rfl ?_
        refine r_nil ?_
        refine r_cret ?_
        refine r_ret (⟨J2, nx, nx, n + 1, false, true, false, ls, zSp, 0, [], nilS, false, left, dX, []⟩ : Hs) ⟨hgX, by rw [← hss]; exact hhX, ⟨by dsimp only; omega, by dsimp only; omega⟩, hjx2.trans hss, hnxm, fun _ => ⟨rfl, rfl, rfl⟩, fun h => by simp at h⟩ rfl (rs1 (rv_tmp rfl)) rfl [0, 163, 164, 3, 4, 5] [1, 1, 58, 60, 61] rfl rfl rfl
      · exact absurd h5 (by simp)
set_option maxHeartbeats 4000000 in
set_option maxRecDepth 100000 in
theorem hbegin_busy (h D : Nat) (v : SV) (m : Nat) (S c : Nat) (x : Hs) (hx : HI S c x) (hc : c ≤ 1000) (xn : Sp) (hok : xn.sn.Ok) (hxl : (eSn xn.sn).length ≤ 100000) (hb : x.busy = true) :
    Spec Try.prog 39 [.pointer (some ⟨h, 0, none⟩), snV xn] [row h 77 (hC D x.J x.s x.nx x.n x.busy x.stepped x.off), row x.J 100 (jC D x.jl x.n x.jx x.vt), ownX 35 (acV D) x.vt x.todo, row D 94 (dC v (some m) x.off x.armed x.left), mp mkI Prod.fst vS (some m) x.fr, own 9 1 eS (sv v) x.dur] [snA x.s, snA x.nx, snA x.jl, snA x.jx, actsA x.J x.todo, snA xn] (X := Hs) (fun y => HI S c y) (fun _ => .bool true) (fun y => [row h 77 (hC D y.J y.s y.nx y.n y.busy y.stepped y.off), row y.J 100 (jC D y.jl y.n y.jx y.vt), ownX 35 (acV D) y.vt y.todo, row D 94 (dC v (some m) y.off y.armed y.left), mp mkI Prod.fst vS (some m) y.fr, own 9 1 eS (sv v) y.dur]) (fun y => [snA y.s, snA y.nx, snA y.jl, snA y.jx, actsA y.J y.todo]) := by
  refine r_enter Try.func39 rfl Try.ntmps39 rfl fun w0 M H => ?_
  obtain ⟨J, s, nx, n, busy, stepped, off, jl, jx, i, todo, vt, armed, left, dur, fr⟩ := x
  have hxx := hx
  obtain ⟨hgeo, hhold, hn0, hjl, hsm, hidle, hon⟩ := hx
  dsimp only at hgeo hhold hn0 hjl hsm hidle hon hb ⊢
  have hlen := hgeo.len
  have hlo := hgeo.lo
  have hhi := hgeo.hi
  subst hb
  refine r_mv 3 43 rfl rfl ?_
  refine r_seq ?_
  refine r_region ?_
  refine r_boxA rfl rfl fun b3 => ?_
  refine r_p (p_assign rfl) rfl ?_
  refine r_nil ?_
  refine r_seq ?_
  refine r_draw [6, 7, 8, 9, 10, 11, 5] _ rfl (stg_mem (V := [(0, 6, _), (1, 7, _), (2, 8, _), (3, 9, _), (4, 10, _)]) [0, 1, 2, 3, 4] 5 [5, 4, 3, 2, 1, 0] [6] (fun _ => [(6, 5, _)]) rfl rfl (prs_cons (pri rfl (p_move rfl)) (prs_cons (pri rfl (p_nilCheck rfl)) (prs_cons (pri rfl (p_field0 fo77_1 rfl)) (prs_cons (pri rfl (p_load1 t49 rfl rfl (g_row1 (k := 0) rfl rfl))) (prs_cons (pri rfl (p_loadA t59 rfl rfl rfl (g_all (k := 3) rfl))) prs_nil))))) rfl rfl rfl rfl rfl rfl rfl rfl rfl rfl rfl (fun _ _ => rfl) rfl (ms_call (xs := [.tmp 9, .tmp 10]) (begin_busy J D jl n jx vt todo (hon rfl).2.1 xn) cb42 [] [(true, 1), (true, 2)] [] [] rfl rfl rfl rfl rfl rfl rfl rfl (fun _ _ => rfl) (fun _ _ _ => rfl)) (fun _ _ => stg_end [6] rfl rfl (prs_cons (pri rfl (p_assign rfl)) prs_nil) rfl rfl rfl ?_))
  refine r_seq ?_
  refine r_seq ?_
  refine r_region ?_
  refine r_p (p_move rfl) rfl ?_
  refine r_p (p_nilCheck rfl) rfl ?_
  refine r_p (p_field0 fo77_5 rfl) rfl ?_
  refine r_p (p_load1 t4 rfl rfl (g_row1 (k := 0) rfl rfl)) rfl ?_
  refine r_nil ?_
  refine r_cond rfl (fun h1 => ?_) (fun h1 => ?_)
  · (try simp only [decide_eq_true_eq, decide_eq_false_iff_not, Bool.and_eq_true, Bool.or_eq_true, Bool.and_eq_false_iff, Bool.or_eq_false_iff, Bool.not_eq_true, Bool.not_eq_false, Bool.not_eq_true', Bool.not_eq_false', Bool.not_not, bne_iff_ne, beq_iff_eq] at h1)
    refine r_seq ?_
    refine r_region ?_
    refine r_p (p_move rfl) rfl ?_
    refine r_p (p_bin rfl rfl b_eq) rfl ?_
    refine r_p (p_assign rfl) rfl ?_
    refine r_nil ?_
    refine r_cret ?_
    refine r_ret (⟨J, s, nx, n, true, stepped, off, jl, jx, i, todo, vt, armed, left, dur, fr⟩ : Hs) hxx rfl (rs1 (rv_tmp rfl)) rfl [0, 1, 2, 43, 4, 5] [0, 1, 2, 3, 4] rfl rfl rfl
  · exact absurd h1 (by simp)
set_option maxHeartbeats 4000000 in
set_option maxRecDepth 100000 in
theorem hbegin_full (h D : Nat) (v : SV) (m : Nat) (S c : Nat) (x : Hs) (hx : HI S c x) (hc : c ≤ 1000) (xn : Sp) (hok : xn.sn.Ok) (hxl : (eSn xn.sn).length ≤ 100000) (hb : x.busy = false) (hf : (eSn xn.sn).length > rm S * 64) :
    Spec Try.prog 39 [.pointer (some ⟨h, 0, none⟩), snV xn] [row h 77 (hC D x.J x.s x.nx x.n x.busy x.stepped x.off), row x.J 100 (jC D x.jl x.n x.jx x.vt), ownX 35 (acV D) x.vt x.todo, row D 94 (dC v (some m) x.off x.armed x.left), mp mkI Prod.fst vS (some m) x.fr, own 9 1 eS (sv v) x.dur] [snA x.s, snA x.nx, snA x.jl, snA x.jx, actsA x.J x.todo, snA xn] (X := Hs) (fun y => HI S c y) (fun _ => .bool true) (fun y => [row h 77 (hC D y.J y.s y.nx y.n y.busy y.stepped y.off), row y.J 100 (jC D y.jl y.n y.jx y.vt), ownX 35 (acV D) y.vt y.todo, row D 94 (dC v (some m) y.off y.armed y.left), mp mkI Prod.fst vS (some m) y.fr, own 9 1 eS (sv v) y.dur]) (fun y => [snA y.s, snA y.nx, snA y.jl, snA y.jx, actsA y.J y.todo]) := by
  refine r_enter Try.func39 rfl Try.ntmps39 rfl fun w0 M H => ?_
  obtain ⟨J, s, nx, n, busy, stepped, off, jl, jx, i, todo, vt, armed, left, dur, fr⟩ := x
  have hxx := hx
  obtain ⟨hgeo, hhold, hn0, hjl, hsm, hidle, hon⟩ := hx
  dsimp only at hgeo hhold hn0 hjl hsm hidle hon hb ⊢
  have hlen := hgeo.len
  have hlo := hgeo.lo
  have hhi := hgeo.hi
  subst hb
  refine r_mv 3 43 rfl rfl ?_
  obtain ⟨h1, h2, h3⟩ := hidle rfl
  subst h1
  subst h2
  subst h3
  have hrm : rm S = (S - 2) / 2 := rfl
  have hosz : (ofI (eSn xn.sn)).size = (eSn xn.sn).length := ofI_size _
  refine r_seq ?_
  refine r_region ?_
  refine r_boxA rfl rfl fun b3 => ?_
  refine r_p (p_assign rfl) rfl ?_
  refine r_nil ?_
  refine r_seq ?_
  refine r_draw [6, 7, 8, 9, 10, 11, 5] _ rfl (stg_mem (V := [(0, 6, _), (1, 7, _), (2, 8, _), (3, 9, _), (4, 10, _)]) [0, 1, 2, 3, 4] 5 [5, 4, 3, 2, 1, 0] [6] (fun _ => [(6, 5, _)]) rfl rfl (prs_cons (pri rfl (p_move rfl)) (prs_cons (pri rfl (p_nilCheck rfl)) (prs_cons (pri rfl (p_field0 fo77_1 rfl)) (prs_cons (pri rfl (p_load1 t49 rfl rfl (g_row1 (k := 0) rfl rfl))) (prs_cons (pri rfl (p_loadA t59 rfl rfl rfl (g_all (k := 3) rfl))) prs_nil))))) rfl rfl rfl rfl rfl rfl rfl rfl rfl rfl rfl (fun _ _ => rfl) rfl (ms_call (xs := [.tmp 9, .tmp 10]) (begin_full J D jl n jx vt v m false armed left dur (by omega) (by omega) (by omega) xn hok hxl (by rw [hlen]; exact hf)) cb42 [1, 2] [(true, 43), (true, 5), (false, 5)] [1, 2] [] rfl rfl rfl rfl rfl rfl rfl rfl (fun _ _ => rfl) (fun _ _ _ => rfl)) (fun _ _ => stg_end [6] rfl rfl (prs_cons (pri rfl (p_assign rfl)) prs_nil) rfl rfl rfl ?_))
  refine r_seq ?_
  refine r_seq ?_
  refine r_region ?_
  refine r_p (p_move rfl) rfl ?_
  refine r_p (p_nilCheck rfl) rfl ?_
  refine r_p (p_field0 fo77_5 rfl) rfl ?_
  refine r_p (p_load1 t4 rfl rfl (g_row1 (k := 0) rfl rfl)) rfl ?_
  refine r_nil ?_
  refine r_cond rfl (fun h1 => ?_) (fun h1 => ?_)
  · exact absurd h1 (by simp)
  · (try simp only [decide_eq_true_eq, decide_eq_false_iff_not, Bool.and_eq_true, Bool.or_eq_true, Bool.and_eq_false_iff, Bool.or_eq_false_iff, Bool.not_eq_true, Bool.not_eq_false, Bool.not_eq_true', Bool.not_eq_false', Bool.not_not, bne_iff_ne, beq_iff_eq] at h1)
    refine r_skip ?_
    refine r_seq ?_
    refine r_seq ?_
    refine r_draw [18, 19, 20, 21, 22, 23, 24, 25, 26, 27, 28, 29] _ rfl (stg_mem (V := [(0, 18, _), (3, 21, _), (4, 22, _), (5, 23, _), (6, 24, _)]) [0, 3, 4, 5, 6] 1 [1, 0] [2] (fun _ => [(2, 20, _)]) rfl rfl (prs_cons (pri rfl (p_loadA t59 rfl rfl rfl (g_all (k := 3) rfl))) (prs_cons (pri rfl (p_move rfl)) (prs_cons (pri rfl (p_nilCheck rfl)) (prs_cons (pri rfl (p_field0 fo77_0 rfl)) (prs_cons (pri rfl (p_load1 t24 rfl rfl (g_row1 (k := 0) rfl rfl))) prs_nil))))) rfl rfl rfl rfl rfl rfl rfl rfl rfl rfl rfl (fun _ _ => rfl) rfl (ms_call (xs := [.tmp 18]) (bytes_spec xn hok hxl) cb32 [] [(false, 5)] [] [] rfl rfl rfl rfl rfl rfl rfl rfl (fun _ _ => rfl) (fun _ _ _ => rfl)) (fun _ _ => stg_mem [2, 3, 4, 5, 6] 7 [7, 6, 5, 4, 3, 1, 0] [8, 9, 10, 11] (fun _ => [(8, 26, _), (9, 27, _), (10, 28, _), (11, 29, _)]) rfl rfl (prs_cons (pri rfl (p_len_str Try.underlying9 rfl)) (prs_cons (pri rfl (p_move rfl)) (prs_cons (pri rfl (p_nilCheck rfl)) (prs_cons (pri rfl (p_field0 fo77_0 rfl)) (prs_cons (pri rfl (p_load1 t24 rfl rfl (g_row1 (k := 0) rfl rfl))) prs_nil))))) rfl rfl rfl rfl rfl rfl rfl rfl rfl rfl rfl (fun _ _ => rfl) rfl (ms_call (xs := [.tmp 24]) (sectors_spec D v (some m) false armed left dur) cb29 [] [(true, 43), (true, 5)] [] [] rfl rfl rfl rfl rfl rfl rfl rfl (fun _ _ => rfl) (fun _ _ _ => rfl)) (fun _ _ => stg_end [8, 9, 10, 11, 2] rfl rfl (prs_cons (pri rfl (p_bin rfl rfl (b_sub (by first | exact w_i64 (by omega) (by omega) | rfl)))) (prs_cons (pri rfl (p_bin rfl rfl (b_quo (c := ((rm S : Nat) : Int)) (by decide) (by rw [hlen, Int.tdiv_eq_ediv_of_nonneg (by omega)]; exact (w_i64 (by omega) (by omega)).trans (by omega))))) (prs_cons (pri rfl (p_bin rfl rfl (b_mul (by first | exact w_i64 (by omega) (by omega) | rfl)))) (prs_cons (pri rfl (p_bin rfl rfl b_gt)) (prs_cons (pri rfl (p_len_str Try.underlying9 rfl)) prs_nil))))) rfl rfl rfl ?_)))
    refine r_cond rfl (fun h2 => ?_) (fun h2 => ?_)
    · (try simp only [decide_eq_true_eq, decide_eq_false_iff_not, Bool.and_eq_true, Bool.or_eq_true, Bool.and_eq_false_iff, Bool.or_eq_false_iff, Bool.not_eq_true, Bool.not_eq_false, Bool.not_eq_true', Bool.not_eq_false', Bool.not_not, bne_iff_ne, beq_iff_eq] at h2)
      refine r_seq ?_
      refine r_region ?_
      refine r_p (p_move rfl) rfl ?_
      refine r_p (p_bin rfl rfl b_eq) rfl ?_
      refine r_p (p_move rfl) rfl ?_
      refine r_split (t := 32) rfl (fun h3 => ?_) (fun h3 => False.elim (by simp at h3))
      refine r_gyes rfl rfl ?_
      refine r_p (p_move rfl) rfl ?_
      refine r_gyes rfl rfl ?_
      refine r_p (p_nilCheck rfl) rfl ?_
      refine r_gyes rfl rfl ?_
      refine r_p (p_field0 fo77_1 rfl) rfl ?_
      refine r_gyes rfl rfl ?_
      refine r_p (p_load1 t49 rfl rfl (g_row1 (k := 0) rfl rfl)) rfl ?_
      refine r_gyes rfl rfl ?_
      refine r_call (xs := [.tmp 36]) (busy_spec J D jl n jx vt []) cb36 [] [(true, 1), (true, 2)] [] [] rfl rfl rfl rfl rfl rfl rfl rfl (fun _ _ => rfl) (fun _ _ _ => rfl) rfl (fun _ _ => ?_)
      refine r_gyes rfl rfl ?_
      refine r_p (p_not rfl) rfl ?_
      refine r_p (p_pick rfl rfl rfl (by first | exact pick_and | exact pick_or |  rfl)) rfl ?_
      refine r_p (p_assign rfl) rfl ?_
      refine r_nil ?_
      refine r_cret ?_
      refine r_ret (⟨J, s, nx, n, false, stepped, false, jl, jx, i, [], vt, armed, left, dur, []⟩ : Hs) hxx rfl (rs1 (rv_tmp rfl)) (by first | rfl | simp) [0, 1, 2, 43, 4, 5] [0, 1, 2, 3, 4] rfl rfl rfl
    · (simp at h2; omega)
set_option maxHeartbeats 4000000 in
set_option maxRecDepth 100000 in
theorem hbegin_ok (h D : Nat) (v : SV) (m : Nat) (S c : Nat) (x : Hs) (hx : HI S c x) (hc : c ≤ 1000) (xn : Sp) (hok : xn.sn.Ok) (hxl : (eSn xn.sn).length ≤ 100000) (hb : x.busy = false) (hf : (eSn xn.sn).length ≤ rm S * 64) :
    Spec Try.prog 39 [.pointer (some ⟨h, 0, none⟩), snV xn] [row h 77 (hC D x.J x.s x.nx x.n x.busy x.stepped x.off), row x.J 100 (jC D x.jl x.n x.jx x.vt), ownX 35 (acV D) x.vt x.todo, row D 94 (dC v (some m) x.off x.armed x.left), mp mkI Prod.fst vS (some m) x.fr, own 9 1 eS (sv v) x.dur] [snA x.s, snA x.nx, snA x.jl, snA x.jx, actsA x.J x.todo, snA xn] (X := Hs) (fun y => HI S c y) (fun _ => .bool true) (fun y => [row h 77 (hC D y.J y.s y.nx y.n y.busy y.stepped y.off), row y.J 100 (jC D y.jl y.n y.jx y.vt), ownX 35 (acV D) y.vt y.todo, row D 94 (dC v (some m) y.off y.armed y.left), mp mkI Prod.fst vS (some m) y.fr, own 9 1 eS (sv v) y.dur]) (fun y => [snA y.s, snA y.nx, snA y.jl, snA y.jx, actsA y.J y.todo]) := by
  refine r_enter Try.func39 rfl Try.ntmps39 rfl fun w0 M H => ?_
  obtain ⟨J, s, nx, n, busy, stepped, off, jl, jx, i, todo, vt, armed, left, dur, fr⟩ := x
  have hxx := hx
  obtain ⟨hgeo, hhold, hn0, hjl, hsm, hidle, hon⟩ := hx
  dsimp only at hgeo hhold hn0 hjl hsm hidle hon hb ⊢
  have hlen := hgeo.len
  have hlo := hgeo.lo
  have hhi := hgeo.hi
  subst hb
  refine r_mv 3 43 rfl rfl ?_
  obtain ⟨h1, h2, h3⟩ := hidle rfl
  subst h1
  subst h2
  subst h3
  have hrm : rm S = (S - 2) / 2 := rfl
  have hosz : (ofI (eSn xn.sn)).size = (eSn xn.sn).length := ofI_size _
  refine r_seq ?_
  refine r_region ?_
  refine r_boxA rfl rfl fun b3 => ?_
  refine r_p (p_assign rfl) rfl ?_
  refine r_nil ?_
  refine r_seq ?_
  refine r_draw [6, 7, 8, 9, 10, 11, 5] _ rfl (stg_mem (V := [(0, 6, _), (1, 7, _), (2, 8, _), (3, 9, _), (4, 10, _)]) [0, 1, 2, 3, 4] 5 [5, 4, 3, 2, 1, 0] [6] (fun t => [(6, 5, _)]) rfl rfl (prs_cons (pri rfl (p_move rfl)) (prs_cons (pri rfl (p_nilCheck rfl)) (prs_cons (pri rfl (p_field0 fo77_1 rfl)) (prs_cons (pri rfl (p_load1 t49 rfl rfl (g_row1 (k := 0) rfl rfl))) (prs_cons (pri rfl (p_loadA t59 rfl rfl rfl (g_all (k := 3) rfl))) prs_nil))))) rfl rfl rfl rfl rfl rfl rfl rfl rfl rfl rfl (fun _ _ => rfl) rfl (ms_call (xs := [.tmp 9, .tmp 10]) (begin_ok J D jl n jx vt v m false armed left dur (by omega) (by omega) (by omega) xn hok hxl (by rw [hlen]; exact hf)) cb42 [1, 2, 43, 5] [(false, 5)] [1, 2, 43, 5] [54, 55] rfl rfl rfl rfl rfl rfl rfl rfl (fun _ _ => rfl) (fun _ _ _ => rfl)) (fun t ht => stg_end [6] rfl rfl (prs_cons (pri rfl (p_assign rfl)) prs_nil) rfl rfl rfl ?_))
  obtain ⟨z, vt2, todo⟩ := t
  obtain ⟨hz1, hz2⟩ := ht
  dsimp only at hz1 hz2 ⊢
  rw [hlen] at hz2
  have hF : Fits S (ofI (eSn xn.sn)) xn.sn := fits_of hok hf hxl
  have htl : 0 < todo.length := by
    have := congrArg List.length hz2
    rw [List.length_map, plan_eq, List.length_append] at this
    simp at this
    omega
  refine r_seq ?_
  refine r_seq ?_
  refine r_region ?_
  refine r_p (p_move rfl) rfl ?_
  refine r_p (p_nilCheck rfl) rfl ?_
  refine r_p (p_field0 fo77_5 rfl) rfl ?_
  refine r_p (p_load1 t4 rfl rfl (g_row1 (k := 0) rfl rfl)) rfl ?_
  refine r_nil ?_
  refine r_cond rfl (fun h1 => ?_) (fun h1 => ?_)
  · exact absurd h1 (by simp)
  · (try simp only [decide_eq_true_eq, decide_eq_false_iff_not, Bool.and_eq_true, Bool.or_eq_true, Bool.and_eq_false_iff, Bool.or_eq_false_iff, Bool.not_eq_true, Bool.not_eq_false, Bool.not_eq_true', Bool.not_eq_false', Bool.not_not, bne_iff_ne, beq_iff_eq] at h1)
    refine r_skip ?_
    refine r_seq ?_
    refine r_seq ?_
    refine r_draw [18, 19, 20, 21, 22, 23, 24, 25, 26, 27, 28, 29] _ rfl (stg_mem (V := [(0, 18, _), (3, 21, _), (4, 22, _), (5, 23, _), (6, 24, _)]) [0, 3, 4, 5, 6] 1 [1, 0] [2] (fun _ => [(2, 20, _)]) rfl rfl (prs_cons (pri rfl (p_loadA t59 rfl rfl rfl (g_all (k := 3) rfl))) (prs_cons (pri rfl (p_move rfl)) (prs_cons (pri rfl (p_nilCheck rfl)) (prs_cons (pri rfl (p_field0 fo77_0 rfl)) (prs_cons (pri rfl (p_load1 t24 rfl rfl (g_row1 (k := 0) rfl rfl))) prs_nil))))) rfl rfl rfl rfl rfl rfl rfl rfl rfl rfl rfl (fun _ _ => rfl) rfl (ms_call (xs := [.tmp 18]) (bytes_spec xn hok hxl) cb32 [] [(false, 5)] [] [] rfl rfl rfl rfl rfl rfl rfl rfl (fun _ _ => rfl) (fun _ _ _ => rfl)) (fun _ _ => stg_mem [2, 3, 4, 5, 6] 7 [7, 6, 5, 4, 3, 1, 0] [8, 9, 10, 11] (fun _ => [(8, 26, _), (9, 27, _), (10, 28, _), (11, 29, _)]) rfl rfl (prs_cons (pri rfl (p_len_str Try.underlying9 rfl)) (prs_cons (pri rfl (p_move rfl)) (prs_cons (pri rfl (p_nilCheck rfl)) (prs_cons (pri rfl (p_field0 fo77_0 rfl)) (prs_cons (pri rfl (p_load1 t24 rfl rfl (g_row1 (k := 0) rfl rfl))) prs_nil))))) rfl rfl rfl rfl rfl rfl rfl rfl rfl rfl rfl (fun _ _ => rfl) rfl (ms_call (xs := [.tmp 24]) (sectors_spec D v (some m) false armed left dur) cb29 [] [(true, 43), (true, 5)] [] [] rfl rfl rfl rfl rfl rfl rfl rfl (fun _ _ => rfl) (fun _ _ _ => rfl)) (fun _ _ => stg_end [8, 9, 10, 11, 2] rfl rfl (prs_cons (pri rfl (p_bin rfl rfl (b_sub (by first | exact w_i64 (by omega) (by omega) | rfl)))) (prs_cons (pri rfl (p_bin rfl rfl (b_quo (c := ((rm S : Nat) : Int)) (by decide) (by rw [hlen, Int.tdiv_eq_ediv_of_nonneg (by omega)]; exact (w_i64 (by omega) (by omega)).trans (by omega))))) (prs_cons (pri rfl (p_bin rfl rfl (b_mul (by first | exact w_i64 (by omega) (by omega) | rfl)))) (prs_cons (pri rfl (p_bin rfl rfl b_gt)) (prs_cons (pri rfl (p_len_str Try.underlying9 rfl)) prs_nil))))) rfl rfl rfl ?_)))
    refine r_cond rfl (fun h2 => ?_) (fun h2 => ?_)
    · (simp at h2; omega)
    · (try simp only [decide_eq_true_eq, decide_eq_false_iff_not, Bool.and_eq_true, Bool.or_eq_true, Bool.and_eq_false_iff, Bool.or_eq_false_iff, Bool.not_eq_true, Bool.not_eq_false, Bool.not_eq_true', Bool.not_eq_false', Bool.not_not, bne_iff_ne, beq_iff_eq] at h2)
      refine r_skip ?_
      refine r_seq ?_
      refine r_region ?_
      refine r_p (p_move rfl) rfl ?_
      refine r_p (p_loadA t59 rfl rfl rfl (g_all (k := 3) rfl)) rfl ?_
      refine r_p (p_nilCheck rfl) rfl ?_
      refine r_p (p_field0 fo77_3 rfl) rfl ?_
      refine r_store_row (k := 0) t59 rfl rfl rfl rfl rfl rfl rfl rfl ?_
      refine r_nil ?_
      refine r_seq ?_
      refine r_region ?_
      refine r_p (p_move rfl) rfl ?_
      refine r_p (p_nilCheck rfl) rfl ?_
      refine r_p (p_field0 fo77_5 rfl) rfl ?_
      refine r_store_row (k := 0) t4 rfl rfl rfl rfl rfl rfl rfl rfl ?_
      refine r_nil ?_
      refine r_seq ?_
      refine r_region ?_
      refine r_p (p_move rfl) rfl ?_
      refine r_p (p_nilCheck rfl) rfl ?_
      refine r_p (p_field0 fo77_6 rfl) rfl ?_
      refine r_store_row (k := 0) t4 rfl rfl rfl rfl rfl rfl rfl rfl ?_
      refine r_nil ?_
      refine r_seq ?_
      refine r_region ?_
      refine r_p (p_move rfl) rfl ?_
      refine r_p (p_bin rfl rfl b_eq) rfl ?_
      refine r_p (p_move rfl) rfl ?_
      refine r_split (t := 52) rfl (fun h3 => ?_) (fun h3 => False.elim (by simp at h3))
      refine r_gyes rfl rfl ?_
      refine r_p (p_move rfl) rfl ?_
      refine r_gyes rfl rfl ?_
      refine r_p (p_nilCheck rfl) rfl ?_
      refine r_gyes rfl rfl ?_
      refine r_p (p_field0 fo77_1 rfl) rfl ?_
      refine r_gyes rfl rfl ?_
      refine r_p (p_load1 t49 rfl rfl (g_row1 (k := 0) rfl rfl)) rfl ?_
      refine r_gyes rfl rfl ?_
      refine r_call (xs := [.tmp 56]) (busy_spec J D jl n z vt2 todo) cb36 [] [(true, 1), (true, 2)] [] [] rfl rfl rfl rfl rfl rfl rfl rfl (fun _ _ => rfl) (fun _ _ _ => rfl) rfl (fun _ _ => ?_)
      refine r_p (p_pick rfl rfl rfl (by first | exact pick_and | exact pick_or |  rfl)) rfl ?_
      refine r_p (p_assign rfl) rfl ?_
      refine r_nil ?_
      refine r_cret ?_
      refine r_ret (⟨J, s, xn, n, true, false, false, jl, z, 0, todo, vt2, armed, left, dur, []⟩ : Hs) ⟨hgeo, hhold, hn0, hjl, hsm, fun h => by simp at h, fun _ => ⟨by show Phase n S _ dur [] 0 (todo.map Ac.plain); rw [hz2]; exact phase_init, htl, hF, hz1, Sp.Sm.of (by dsimp only; omega), fun _ => rfl⟩⟩ rfl (rs1 (rv_tmp rfl)) (by rw [decide_eq_true htl]; rfl) [0, 1, 2, 43, 4, 5] [0, 5, 2, 54, 55] rfl rfl rfl
set_option maxRecDepth 100000 in
theorem hbegin_spec (h D : Nat) (v : SV) (m : Nat) (S c : Nat) (x : Hs) (hx : HI S c x) (hc : c ≤ 1000) (xn : Sp) (hok : xn.sn.Ok) (hxl : (eSn xn.sn).length ≤ 100000) : Spec Try.prog 39 [.pointer (some ⟨h, 0, none⟩), snV xn] [row h 77 (hC D x.J x.s x.nx x.n x.busy x.stepped x.off), row x.J 100 (jC D x.jl x.n x.jx x.vt), ownX 35 (acV D) x.vt x.todo, row D 94 (dC v (some m) x.off x.armed x.left), mp mkI Prod.fst vS (some m) x.fr, own 9 1 eS (sv v) x.dur] [snA x.s, snA x.nx, snA x.jl, snA x.jx, actsA x.J x.todo, snA xn] (X := Hs) (fun y => HI S c y) (fun _ => .bool true) (fun y => [row h 77 (hC D y.J y.s y.nx y.n y.busy y.stepped y.off), row y.J 100 (jC D y.jl y.n y.jx y.vt), ownX 35 (acV D) y.vt y.todo, row D 94 (dC v (some m) y.off y.armed y.left), mp mkI Prod.fst vS (some m) y.fr, own 9 1 eS (sv v) y.dur]) (fun y => [snA y.s, snA y.nx, snA y.jl, snA y.jx, actsA y.J y.todo]) := by
  by_cases hb : x.busy = true
  · exact hbegin_busy h D v m S c x hx hc xn hok hxl hb
  · have hb : x.busy = false := by simpa using hb
    by_cases hf : (eSn xn.sn).length ≤ rm S * 64
    · exact hbegin_ok h D v m S c x hx hc xn hok hxl hb hf
    · exact hbegin_full h D v m S c x hx hc xn hok hxl hb (by omega)


end Go.Proofs.Ytohenjmkhncoiaa
