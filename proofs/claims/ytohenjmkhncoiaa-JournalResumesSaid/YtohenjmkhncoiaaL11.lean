/-
  The walk of JournalResumes. Condition: the numbers are of 64 bits.
-/
import Derived.Test.YtohenjmkhncoiaaP3
import Derived.Test.YtohenjmkhncoiaaOG
namespace Go.Proofs.Ytohenjmkhncoiaa
set_option linter.unusedSimpArgs false
set_option linter.unusedVariables false
open Go.RowKit

structure Rst where
  k : Nat
  w : Wst
  off : Bool
  lst : Sp
  n : Int
/-- A checkpoint that may be interrupted: on its way, or done. -/
def ROk (st : Int) (sa sb : Sn) (la lb : Sp) (body : ByteArray) (x : Rst) : Prop :=
  (WOk 1 120 sa body x.w ∧ 0 < x.w.todo.length ∧ x.lst = la ∧ x.n = 1 ∧ (x.w.i : Int) ≤ st ∧ ((x.k : Int) ≤ st → x.off = false ∧ x.w.left = st - x.k ∧ x.w.i = x.k) ∧ (st < (x.k : Int) → x.off = true)) ∨
  (x.w.todo = [] ∧ x.w.fr = [] ∧ Geo x.w.dur 120 ∧ Hold (view x.w.dur) (rm 120) 2 sb ∧ x.lst = lb ∧ x.n = 2 ∧ x.off = false ∧ 0 < st)
/-- What a crash leaves of it. -/
theorem rok_crash {st : Int} {sa sb : Sn} {la lb : Sp} {body : ByteArray} {x : Rst} (h : ROk st sa sb la lb body x) (hF : Fits 120 body sb) (q : List Int) :
    Geo (sdN q (x.w.dur, x.w.fr, 0) x.w.dur.length).1 120 ∧ (sdN q (x.w.dur, x.w.fr, 0) x.w.dur.length).2.1 = [] ∧ ∃ nn ss, Hold (view (sdN q (x.w.dur, x.w.fr, 0) x.w.dur.length).1) (rm 120) nn ss ∧ ((nn = 1 ∧ ss = sa) ∨ (nn = 2 ∧ ss = sb ∧ 0 < st)) := by
  rcases h with ⟨hw, _, _, _, hi, _, _⟩ | ⟨_, hf, hg, hh, _, _, _, hs⟩
  · obtain ⟨c1, c2, c3⟩ := crash_good q hw.geo hw.hold hF (by decide) hw.ph
    refine ⟨c1, c2, ?_⟩
    rcases c3 with c3 | ⟨c3, c4⟩
    · exact ⟨1, sa, c3, .inl ⟨rfl, rfl⟩⟩
    · exact ⟨2, sb, c4, .inr ⟨rfl, rfl, by omega⟩⟩
  · rw [hf, crash_idle]
    exact ⟨hg, rfl, 2, sb, hh, .inr ⟨rfl, rfl, hs⟩⟩

set_option maxHeartbeats 4000000 in
set_option maxRecDepth 100000 in
theorem resumes_law (a b : Ql) (ha : ∀ n ∈ a.l, okI n) (hb : ∀ n ∈ b.l, okI n) (st : Int) (hst : 0 ≤ st ∧ st < 256) (vq : SV) (q : List Int) (hq : ∀ x ∈ q, okI x) :
    Spec Try.prog 11 [.agg #[sv a.v, sv b.v], .int .u8 st, sv vq] [] [slq a.v a.l, slq b.v b.l, sl 1 eI (sv vq) q] (X := Unit) (fun _ => True) (fun _ => .bool true) (fun _ => []) (fun _ => []) := by
  refine r_enter Try.func11 rfl Try.ntmps11 rfl fun w0 M H => ?_
  refine r_seq ?_
  refine r_region ?_
  refine r_boxA rfl rfl fun b3 => ?_
  refine r_p (p_assign rfl) rfl ?_
  refine r_nil ?_
  refine r_seq ?_
  refine r_region ?_
  refine r_call (xs := []) sanity_spec cb15 [] [] [] [] rfl rfl rfl rfl rfl rfl rfl rfl (fun _ _ => rfl) (fun _ _ _ => rfl) rfl (fun _ _ => ?_)
  refine r_p (p_assign rfl) rfl ?_
  refine r_nil ?_
  refine r_seq ?_
  refine r_region ?_
  refine r_call (xs := [.const (.int .i64 120)]) (newdisk_spec 120) cb16 [] [] [160, 161, 162] [] rfl rfl rfl rfl rfl rfl rfl rfl (fun _ _ => rfl) (fun _ _ _ => rfl) rfl (fun d3 _ => ?_)
  obtain ⟨D, v, m⟩ := d3
  dsimp only
  refine r_conva (k := 162) (A' := own 9 1 eS (sv v) (List.replicate 120 zsec)) rfl (fun _ _ h => h) ?_
  obtain ⟨hg0, hh0⟩ := hold_new (S := 120) (by decide) (by decide)
  have hrm : rm 120 = 59 := rfl
  refine r_p (p_assign rfl) rfl ?_
  refine r_nil ?_
  refine r_seq ?_
  refine r_region ?_
  refine r_p (p_move rfl) rfl ?_
  refine r_call (xs := [.tmp 18]) (open_run D v m false 0 (List.replicate 120 zsec) hg0 hh0) cb30 [160, 161, 162] [] [163, 160, 161, 162] [52] rfl rfl rfl rfl rfl rfl rfl rfl (fun _ _ => rfl) (fun _ _ _ => rfl) rfl (fun jx hjx => ?_)
  obtain ⟨J, ls0⟩ := jx
  dsimp only at hjx ⊢
  have hls0 : ls0.sn = zSp.sn := hjx
  refine r_addG 164 (A := ownX 35 (acV D) nilS []) ownX_nil ?_
  refine r_p (p_move rfl) rfl ?_
  refine r_p (p_extract rfl rfl) rfl ?_
  refine r_p (p_extract rfl rfl) rfl ?_
  refine r_p (p_assign rfl) rfl ?_
  refine r_p (p_assign rfl) rfl ?_
  refine r_nil ?_
  refine r_seq ?_
  refine r_region ?_
  refine r_p (p_idx_arr1 (j := 0) Try.underlying83 t28 rfl rfl (by rfl) (by decide)) rfl ?_
  refine r_p (p_load1 t28 rfl rfl (g_row1 (k := 3) rfl rfl)) rfl ?_
  refine r_call (xs := [.tmp 23]) (made_q a.v a.l) cb31 [] [(false, 0)] [] [50] rfl rfl rfl rfl rfl rfl rfl rfl (fun _ _ => rfl) (fun _ _ _ => rfl) rfl (fun xa hxa => ?_)
  obtain ⟨xaa0, xaa1, xaa2, xaa3, xaa4, hxa⟩ := hxa
  have exa : xa.sn = madeF a.l := by rw [hxa]; exact madeS_sn _ _ _ _ _ _
  have oxa : xa.sn.Ok := by rw [exa]; exact made_ok _ (okI_xq ha)
  have lxa : (eSn xa.sn).length ≤ 1000 := by rw [exa]; exact made_len _
  have mxa : xa.Sm := Sp.Sm.of (by omega)
  clear hxa exa
  refine r_alloc t59 rfl rfl fun b11 => ?_
  refine r_store_all (k := 11) t59 rfl rfl rfl rfl rfl rfl ?_
  refine r_nil ?_
  refine r_seq ?_
  refine r_region ?_
  refine r_p (p_idx_arr1 (j := 1) Try.underlying83 t28 rfl rfl (by rfl) (by decide)) rfl ?_
  refine r_p (p_load1 t28 rfl rfl (g_row1 (k := 3) rfl rfl)) rfl ?_
  refine r_call (xs := [.tmp 26]) (made_q b.v b.l) cb31 [] [(false, 1)] [] [51] rfl rfl rfl rfl rfl rfl rfl rfl (fun _ _ => rfl) (fun _ _ _ => rfl) rfl (fun xb hxb => ?_)
  obtain ⟨xba0, xba1, xba2, xba3, xba4, hxb⟩ := hxb
  have exb : xb.sn = madeF b.l := by rw [hxb]; exact madeS_sn _ _ _ _ _ _
  have oxb : xb.sn.Ok := by rw [exb]; exact made_ok _ (okI_xq hb)
  have lxb : (eSn xb.sn).length ≤ 1000 := by rw [exb]; exact made_len _
  have mxb : xb.Sm := Sp.Sm.of (by omega)
  clear hxb exb
  refine r_alloc t59 rfl rfl fun b12 => ?_
  refine r_store_all (k := 12) t59 rfl rfl rfl rfl rfl rfl ?_
  refine r_nil ?_
  refine r_seq ?_
  refine r_seq ?_
  refine r_region ?_
  refine r_p (p_move rfl) rfl ?_
  refine r_p (p_bin rfl rfl (b_eqPn Try.underlying49)) rfl ?_
  refine r_p (p_move rfl) rfl ?_
  refine r_split (t := 30) rfl (fun h1 => False.elim (by simp at h1)) (fun h1 => ?_)
  refine r_gyes rfl rfl ?_
  refine r_p (p_move rfl) rfl ?_
  refine r_gyes rfl rfl ?_
  refine r_p (p_bin rfl rfl b_ne) rfl ?_
  refine r_p (p_pick rfl rfl rfl (by first | exact pick_and | exact pick_or |  rfl)) rfl ?_
  refine r_p (p_move rfl) rfl ?_
  refine r_split (t := 34) rfl (fun h2 => False.elim (by simp at h2)) (fun h2 => ?_)
  refine r_gyes rfl rfl ?_
  refine r_p (p_move rfl) rfl ?_
  refine r_gyes rfl rfl ?_
  refine r_p (p_loadA t59 rfl rfl rfl (g_all (k := 11) rfl)) rfl ?_
  refine r_gyes rfl rfl ?_
  refine r_call (xs := [.tmp 35, .tmp 36]) (written_spec J D ls0 0 zSp nilS v m 0 (List.replicate 120 zsec) (by decide) hg0 hh0 xa oxa (by omega) (by omega)) cb37 [163, 164, 160, 161, 162] [(false, 50)] [163, 164, 160, 161, 162] [53] rfl rfl rfl rfl rfl rfl rfl rfl (fun _ _ => rfl) (fun _ _ _ => rfl) rfl (fun y hy => ?_)
  obtain ⟨la, va, left1, dur1⟩ := y
  obtain ⟨hla, hg1, hh1⟩ := hy
  dsimp only at hla hg1 hh1 ⊢
  rw [show (0 : Int) + 1 = 1 from rfl] at hh1 ⊢
  refine r_gyes rfl rfl ?_
  refine r_p (p_not rfl) rfl ?_
  refine r_p (p_pick rfl rfl rfl (by first | exact pick_and | exact pick_or |  rfl)) rfl ?_
  refine r_p (p_move rfl) rfl ?_
  refine r_split (t := 40) rfl (fun h3 => False.elim (by simp at h3)) (fun h3 => ?_)
  refine r_gyes rfl rfl ?_
  refine r_p (p_move rfl) rfl ?_
  refine r_gyes rfl rfl ?_
  refine r_p (p_loadA t59 rfl rfl rfl (g_all (k := 12) rfl)) rfl ?_
  refine r_gyes rfl rfl ?_
  refine r_call (xs := [.tmp 41, .tmp 42]) (begin_ok J D la 1 la va v m false false left1 dur1 (by decide) (by rw [hg1.len]; decide) (by rw [hg1.len]; decide) xb oxb (by omega) (by rw [hg1.len]; show (eSn xb.sn).length ≤ rm 120 * 64; omega)) cb42 [163, 164, 160, 162] [(false, 51)] [163, 164, 160, 162] [54, 55] rfl rfl rfl rfl rfl rfl rfl rfl (fun _ _ => rfl) (fun _ _ _ => rfl) rfl (fun t ht => ?_)
  obtain ⟨z, vt, todo⟩ := t
  obtain ⟨hz1, hz2⟩ := ht
  dsimp only at hz1 hz2 ⊢
  rw [hg1.len] at hz2
  have hF : Fits 120 (ofI (eSn xb.sn)) xb.sn := fits_of oxb (by omega) (by omega)
  have mz : z.Sm := mxb.congr hz1
  have htl : 0 < todo.length := by
    have := congrArg List.length hz2
    rw [List.length_map, plan_eq, List.length_append] at this
    simp at this
    omega
  refine r_gyes rfl rfl ?_
  refine r_p (p_bin rfl rfl b_ne) rfl ?_
  refine r_p (p_pick rfl rfl rfl (by first | exact pick_and | exact pick_or |  rfl)) rfl ?_
  refine r_nil ?_
  refine r_cond rfl (fun h4 => ?_) (fun h4 => ?_)
  · exact absurd h4 (by simp)
  · (try simp only [decide_eq_true_eq, decide_eq_false_iff_not, Bool.and_eq_true, Bool.or_eq_true, Bool.and_eq_false_iff, Bool.or_eq_false_iff, Bool.not_eq_true, Bool.not_eq_false, Bool.not_eq_true', Bool.not_eq_false', Bool.not_not, bne_iff_ne, beq_iff_eq] at h4)
    refine r_skip ?_
    refine r_seq ?_
    refine r_region ?_
    refine r_p (p_move rfl) rfl ?_
    refine r_p (p_move rfl) rfl ?_
    refine r_p (p_conv Try.underlying5 Try.underlying3 rfl (by first | exact w_i64 (by omega) (by omega) | rfl)) rfl ?_
    refine r_call (xs := [.tmp 46, .tmp 48]) (arm_spec D v (some m) false false left1 st) cb23 [160] [] [160] [] rfl rfl rfl rfl rfl rfl rfl rfl (fun _ _ => rfl) (fun _ _ _ => rfl) rfl (fun _ _ => ?_)
    refine r_conva (k := 160) (A' := row D 94 (dC v (some m) false true st)) rfl (fun _ _ h => by rw [show (if false = true then false else decide (st ≥ 0)) = true by simp; omega, show (if false = true then left1 else st) = st by simp] at h; exact h) ?_
    refine r_nil ?_
    refine r_seq ?_
    refine r_seq ?_
    refine r_region ?_
    refine r_p (p_assign rfl) rfl ?_
    refine r_nil ?_
    refine r_block ?_
    refine r_loop (X := Rst) (fun x => ROk st xa.sn xb.sn la z (ofI (eSn xb.sn)) x) (fun x => [(1, .int .u8 st), (2, sv vq), (7, .bool true), (8, .pointer (some ⟨D, 0, none⟩)), (9, .pointer (some ⟨J, 0, none⟩)), (11, .pointer (some ⟨b11, 0, none⟩)), (12, .pointer (some ⟨b12, 0, none⟩)), (3, .pointer (some ⟨b3, 0, none⟩)), (13, .int .i64 (x.k : Int))]) (fun x => [(3, row b3 83 [sv a.v, sv b.v]), (11, row b11 59 (snC xa)), (12, row b12 59 (snC xb)), (163, row J 100 (jC D x.lst x.n z x.w.vt)), (164, ownX 35 (acV D) x.w.vt x.w.todo), (160, row D 94 (dC v (some m) x.off true x.w.left)), (161, mp mkI Prod.fst vS (some m) x.w.fr), (162, own 9 1 eS (sv v) x.w.dur)]) (fun x => [(2, sl 1 eI (sv vq) q), (50, snA xa), (51, snA xb), (54, snA z), (55, actsA J x.w.todo)]) (fun x => if 0 < x.w.todo.length then (st + 2 - x.k).toNat else 0) ⟨0, ⟨0, todo, vt, st, dur1, []⟩, false, la, 1⟩ (.inl ⟨⟨hg1, hh1, by show Phase 1 120 _ _ [] 0 (todo.map Ac.plain); rw [hz2]; exact phase_init⟩, htl, rfl, rfl, by show ((0 : Nat) : Int) ≤ st; omega, fun _ => ⟨rfl, by show st = st - ((0 : Nat) : Int); omega, rfl⟩, fun h => by dsimp only at h; omega⟩) rfl rfl rfl (fun x hx0 => ?_)
    obtain ⟨k, ⟨i, todo, vw, lw, dw, fw⟩, fo, fl, fn⟩ := x
    have hcr := rok_crash hx0 hF q
    have hlen : dw.length = 120 := by
      rcases hx0 with h | h
      · exact h.1.geo.len
      · exact h.2.2.1.len
    dsimp only at hcr ⊢
    refine r_seq ?_
    refine r_seq ?_
    refine r_region ?_
    refine r_p (p_move rfl) rfl ?_
    refine r_p (p_move rfl) rfl ?_
    refine r_p (p_conv Try.underlying5 Try.underlying3 rfl (by first | exact w_i64 (by omega) (by omega) | rfl)) rfl ?_
    refine r_p (p_bin rfl rfl b_le) rfl ?_
    refine r_p (p_move rfl) rfl ?_
    refine r_split (t := 54) rfl (fun h5 => ?_) (fun h5 => ?_)
    · (try simp only [decide_eq_true_eq, decide_eq_false_iff_not, Bool.and_eq_true, Bool.or_eq_true, Bool.and_eq_false_iff, Bool.or_eq_false_iff, Bool.not_eq_true, Bool.not_eq_false, Bool.not_eq_true', Bool.not_eq_false', Bool.not_not, bne_iff_ne, beq_iff_eq] at h5)
      have hkl : (k : Int) ≤ st := h5
      refine r_gyes rfl rfl ?_
      refine r_p (p_move rfl) rfl ?_
      refine r_gyes rfl rfl ?_
      refine r_call (xs := [.tmp 55]) (busy_spec J D fl fn z vw todo) cb36 [] [(true, 163), (true, 164)] [] [] rfl rfl rfl rfl rfl rfl rfl rfl (fun _ _ => rfl) (fun _ _ _ => rfl) rfl (fun _ _ => ?_)
      refine r_p (p_pick rfl rfl rfl (by first | exact pick_and | exact pick_or |  rfl)) rfl ?_
      refine r_nil ?_
      refine r_cond rfl (fun h6 => ?_) (fun h6 => ?_)
      · have hbt : 0 < todo.length := by
          first
          | (have h9 := h6; simp at h9; done)
          | (have h9 := h6; simp at h9; exact h9)
        obtain ⟨hw, -, hfl, hfn, hi, hin, hout⟩ := hx0.resolve_right (fun h => by have := h.1; dsimp only at this; rw [this] at hbt; simp at hbt)
        dsimp only at hfl hfn hi hin hout
        replace hfl := hfl.symm
        subst hfl
        subst hfn
        obtain ⟨c, rest, rfl⟩ : ∃ c rest, todo = c :: rest := by
          cases todo with
          | nil => simp at hbt
          | cons c rest => exact ⟨c, rest, rfl⟩
        refine r_skip ?_
        refine r_seq ?_
        refine r_block ?_
        refine r_region ?_
        refine r_p (p_move rfl) rfl ?_
        refine r_call (xs := [.tmp 60]) (step_run J D la 1 z vw v m fo true lw dw fw c rest (by decide) hw.geo hw.hold hF hw.ph) cb43 [163, 164, 160, 161, 162] [(false, 55)] [163, 164, 160, 161, 162] [] rfl rfl rfl rfl rfl rfl rfl rfl (fun _ _ => rfl) (fun _ _ _ => rfl) rfl (fun y hy => ?_)
        obtain ⟨so, d⟩ := y
        obtain ⟨hst2, hso⟩ := hy
        dsimp only at hst2 hso ⊢
        refine r_nil ?_
        refine r_region ?_
        refine r_p (p_move rfl) rfl ?_
        refine r_p (p_bin rfl rfl (b_add (by first | exact w_i64 (by omega) (by omega) | rfl))) rfl ?_
        refine r_p (p_assign rfl) rfl ?_
        refine r_nil ?_
        have hpl := hw.ph.len
        dsimp only at hpl
        rw [List.length_map, List.length_cons] at hpl
        by_cases hks : (k : Int) = st
        · obtain ⟨ho, hl0, hik⟩ := hin (by omega)
          have hpw : pwO fo true lw = true := by rw [ho, hl0]; simp [pwO]; omega
          have hde : d.e = 50 := hst2.he.trans (if_pos hpw)
          obtain ⟨hbd, hbf⟩ := hst2.bad hpw
          rw [hde, stepO_err] at hso
          subst hso
          refine r_here ⟨k + 1, ⟨i, c :: rest, vw, d.left, dw, fw⟩, true, la, 1⟩ ⟨.inl ⟨⟨hw.geo, hw.hold, hw.ph⟩, by simp, rfl, rfl, hi, fun h => by dsimp only at h; omega, fun _ => rfl⟩, by dsimp only; rw [if_pos hbt, if_pos hbt]; omega⟩ rfl (by rw [hbd, hbf, show d.off = true from hst2.ho.trans hpw]; rfl) rfl
        · obtain ⟨ho, hl0, hik⟩ := hin (by omega)
          have hpw : pwO fo true lw = false := by rw [ho, hl0]; simp [pwO]; omega
          have hde : d.e = 0 := hst2.he.trans (if_neg (by simp [hpw]))
          have hdo : d.off = false := hst2.ho.trans hpw
          have hdl : d.left = st - ((k + 1 : Nat) : Int) := by rw [hst2.hl, ho, if_neg (by simp), hl0, w_i64 (by omega) (by omega)]; omega
          have hgd := hst2.good hpw
          rw [hde] at hso
          rcases Nat.lt_or_ge 0 rest.length with hr | hr
          · rw [stepO_more hr] at hso
            subst hso
            have hgm := hgd.2.resolve_right (fun h => by have := h.1; rw [List.map_eq_nil_iff] at this; rw [this] at hr; simp at hr)
            refine r_more 55 55 rfl (actsA_sub (l' := rest) fun c hc => List.mem_cons_of_mem _ hc) ?_
            refine r_here ⟨k + 1, ⟨i + 1, rest, loS vw 1 1, d.left, d.dur, d.fr⟩, false, la, 1⟩ ⟨.inl ⟨⟨hgd.1, hgm.2.1, hgm.2.2⟩, hr, rfl, rfl, by dsimp only; omega, fun _ => ⟨rfl, hdl, by dsimp only; omega⟩, fun h => by dsimp only at h; omega⟩, by dsimp only; rw [if_pos hr, if_pos hbt]; omega⟩ rfl (by rw [hdo]; rfl) rfl
          · have hr0 : rest = [] := List.eq_nil_of_length_eq_zero (by omega)
            subst hr0
            rw [stepO_last] at hso
            subst hso
            have hgl := hgd.2.resolve_left (fun h => h.1 rfl)
            refine r_more 55 55 rfl (actsA_sub (l' := []) fun c hc => List.mem_cons_of_mem _ hc) ?_
            refine r_here ⟨k + 1, ⟨i + 1, [], loS vw 1 1, d.left, d.dur, d.fr⟩, false, z, 2⟩ ⟨.inr ⟨rfl, hgl.2.1, hgd.1, hgl.2.2, rfl, rfl, rfl, by omega⟩, by dsimp only; rw [if_neg (by simp), if_pos hbt]; omega⟩ rfl (by rw [hdo]; rfl) rfl
      · skip
        refine r_exit ?_
        refine r_seq ?_
        refine r_region ?_
        refine r_p (p_move rfl) rfl ?_
        refine r_p (p_move rfl) rfl ?_
        refine r_call (xs := [.tmp 62, .tmp 63]) (crash_spec D v m fo true lw dw fw vq q (by have := hlen; omega)) cb25 [160, 161, 162] [(false, 2)] [160, 161, 162] [] rfl rfl rfl rfl rfl rfl rfl rfl (fun _ _ => rfl) (fun _ _ _ => rfl) rfl (fun _ _ => ?_)
        obtain ⟨dX, hdX⟩ : ∃ z, (sdN q (dw, fw, 0) dw.length).1 = z := ⟨_, rfl⟩
        rw [hdX] at hcr ⊢
        obtain ⟨hgX, hfX, nn, ss, hhX, hcase⟩ := hcr
        rw [hfX]
        have hnn : 1 ≤ nn ∧ nn ≤ 2 := by rcases hcase with ⟨h, _⟩ | ⟨h, _⟩ <;> omega
        refine r_nil ?_
        refine r_seq ?_
        refine r_region ?_
        refine r_p (p_move rfl) rfl ?_
        refine r_call (xs := [.tmp 66]) (open_run D v m false lw dX hgX hhX) cb30 [160, 161, 162] [] [163, 160, 161, 162] [58] rfl rfl rfl rfl rfl rfl rfl rfl (fun _ _ => rfl) (fun _ _ _ => rfl) rfl (fun jx hjx => ?_)
        obtain ⟨J2, ls2⟩ := jx
        dsimp only at hjx ⊢
        have hls2 : ls2.sn = ss := hjx
        refine r_addG 164 (A := ownX 35 (acV D) nilS []) ownX_nil ?_
        have ml2 : ls2.Sm := by
          rcases hcase with ⟨_, h⟩ | ⟨_, h, _⟩
          · exact mxa.congr (hls2.trans h)
          · exact mxb.congr (hls2.trans h)
        refine r_p (p_move rfl) rfl ?_
        refine r_p (p_extract rfl rfl) rfl ?_
        refine r_p (p_extract rfl rfl) rfl ?_
        refine r_p (p_assign rfl) rfl ?_
        refine r_p (p_assign rfl) rfl ?_
        refine r_nil ?_
        refine r_seq ?_
        refine r_seq ?_
        refine r_region ?_
        refine r_p (p_move rfl) rfl ?_
        refine r_p (p_bin rfl rfl (b_eqPn Try.underlying49)) rfl ?_
        refine r_p (p_move rfl) rfl ?_
        refine r_split (t := 72) rfl (fun h7 => False.elim (by simp at h7)) (fun h7 => ?_)
        refine r_gyes rfl rfl ?_
        refine r_p (p_move rfl) rfl ?_
        refine r_gyes rfl rfl ?_
        refine r_p (p_bin rfl rfl b_ne) rfl ?_
        refine r_p (p_pick rfl rfl rfl (by first | exact pick_and | exact pick_or |  rfl)) rfl ?_
        refine r_nil ?_
        refine r_cond rfl (fun h8 => ?_) (fun h8 => ?_)
        · exact absurd h8 (by simp)
        · (try simp only [decide_eq_true_eq, decide_eq_false_iff_not, Bool.and_eq_true, Bool.or_eq_true, Bool.and_eq_false_iff, Bool.or_eq_false_iff, Bool.not_eq_true, Bool.not_eq_false, Bool.not_eq_true', Bool.not_eq_false', Bool.not_not, bne_iff_ne, beq_iff_eq] at h8)
          refine r_skip ?_
          refine r_seq ?_
          refine r_region ?_
          refine r_p (p_assign rfl) rfl ?_
          refine r_nil ?_
          refine r_seq ?_
          refine r_seq ?_
          refine r_region ?_
          refine r_p (p_move rfl) rfl ?_
          refine r_p (p_loadA t59 rfl rfl rfl (g_all (k := 11) rfl)) rfl ?_
          refine r_call (xs := [.tmp 76, .tmp 77, .const (.int .i64 1)]) (last_spec38 J2 D ls2 nn zSp nilS xa 1 ml2 mxa) cb38 [] [(true, 163), (false, 58), (false, 50)] [] [] rfl rfl rfl rfl rfl rfl rfl rfl (fun _ _ => rfl) (fun _ _ _ => rfl) rfl (fun _ _ => ?_)
          refine r_p (p_not rfl) rfl ?_
          refine r_nil ?_
          refine r_cond rfl (fun h9 => ?_) (fun h9 => ?_)
          · have hn2 : nn = 2 ∧ ss = xb.sn ∧ 0 < st := by
              rcases hcase with h | h
              · exfalso
                have hl : lastB nn ls2.sn xa.sn 1 = true := by rw [h.1]; exact last_same (by decide) (hls2.trans h.2)
                rw [hl] at h9
                simp at h9
              · exact h
            have hnv : nn + 1 = 3 := by omega
            refine r_seq ?_
            refine r_region ?_
            refine r_p (p_assign rfl) rfl ?_
            refine r_nil ?_
            refine r_seq ?_
            refine r_region ?_
            refine r_p (p_move rfl) rfl ?_
            refine r_p (p_bin rfl rfl b_eq) rfl ?_
            refine r_p (p_move rfl) rfl ?_
            refine r_split (t := 82) rfl (fun h10 => False.elim (by simp at h10; omega)) (fun h10 => ?_)
            refine r_gyes rfl rfl ?_
            refine r_p (p_move rfl) rfl ?_
            refine r_gyes rfl rfl ?_
            refine r_p (p_loadA t59 rfl rfl rfl (g_all (k := 12) rfl)) rfl ?_
            refine r_gyes rfl rfl ?_
            refine r_call (xs := [.tmp 83, .tmp 84, .const (.int .i64 2)]) (last_is true J2 D ls2 nn zSp nilS xb 2 ml2 mxb (by rw [hn2.1]; exact last_same (by decide) (hls2.trans hn2.2.1))) cb38 [] [(true, 163), (false, 58), (false, 51)] [] [] rfl rfl rfl rfl rfl rfl rfl rfl (fun _ _ => rfl) (fun _ _ _ => rfl) rfl (fun _ _ => ?_)
            refine r_gyes rfl rfl ?_
            refine r_p (p_not rfl) rfl ?_
            refine r_p (p_pick rfl rfl rfl (by first | exact pick_and | exact pick_or |  rfl)) rfl ?_
            refine r_nil ?_
            refine r_cond rfl (fun h11 => ?_) (fun h11 => ?_)
            · (simp at h11)
            · (try simp only [decide_eq_true_eq, decide_eq_false_iff_not, Bool.and_eq_true, Bool.or_eq_true, Bool.and_eq_false_iff, Bool.or_eq_false_iff, Bool.not_eq_true, Bool.not_eq_false, Bool.not_eq_true', Bool.not_eq_false', Bool.not_not, bne_iff_ne, beq_iff_eq] at h11)
              refine r_skip ?_
              refine r_seq ?_
              refine r_seq ?_
              refine r_region ?_
              refine r_p (p_move rfl) rfl ?_
              refine r_p (p_loadA t59 rfl rfl rfl (g_all (k := 11) rfl)) rfl ?_
              refine r_call (xs := [.tmp 88, .tmp 89]) (written_spec J2 D ls2 nn zSp nilS v m lw dX (by omega) hgX hhX xa oxa (by omega) (by omega)) cb37 [163, 164, 160, 161, 162] [(false, 50)] [163, 164, 160, 161, 162] [59] rfl rfl rfl rfl rfl rfl rfl rfl (fun _ _ => rfl) (fun _ _ _ => rfl) rfl (fun y hy => ?_)
              obtain ⟨l3, v3, left3, dur3⟩ := y
              obtain ⟨hl3, hg3, hh3⟩ := hy
              dsimp only at hl3 hg3 hh3 ⊢
              have m3_ : l3.Sm := mxa.congr hl3
              refine r_p (p_not rfl) rfl ?_
              refine r_p (p_move rfl) rfl ?_
              refine r_split (t := 92) rfl (fun h12 => False.elim (by simp at h12)) (fun h12 => ?_)
              refine r_gyes rfl rfl ?_
              refine r_p (p_move rfl) rfl ?_
              refine r_gyes rfl rfl ?_
              refine r_p (p_loadA t59 rfl rfl rfl (g_all (k := 11) rfl)) rfl ?_
              refine r_gyes rfl rfl ?_
              refine r_p (p_move rfl) rfl ?_
              refine r_gyes rfl rfl ?_
              refine r_p (p_bin rfl rfl (b_add (by first | exact w_i64 (by omega) (by omega) | rfl))) rfl ?_
              refine r_gyes rfl rfl ?_
              refine r_call (xs := [.tmp 93, .tmp 94, .tmp 96]) (last_is true J2 D l3 (nn + 1) l3 v3 xa 3 m3_ mxa (by rw [hnv]; exact last_same (by decide) hl3)) cb38 [] [(true, 163), (false, 59), (false, 50)] [] [] rfl rfl rfl rfl rfl rfl rfl rfl (fun _ _ => rfl) (fun _ _ _ => rfl) rfl (fun _ _ => ?_)
              refine r_gyes rfl rfl ?_
              refine r_p (p_not rfl) rfl ?_
              refine r_p (p_pick rfl rfl rfl (by first | exact pick_and | exact pick_or |  rfl)) rfl ?_
              refine r_nil ?_
              refine r_cond rfl (fun h13 => ?_) (fun h13 => ?_)
              · exact absurd h13 (by simp)
              · (try simp only [decide_eq_true_eq, decide_eq_false_iff_not, Bool.and_eq_true, Bool.or_eq_true, Bool.and_eq_false_iff, Bool.or_eq_false_iff, Bool.not_eq_true, Bool.not_eq_false, Bool.not_eq_true', Bool.not_eq_false', Bool.not_not, bne_iff_ne, beq_iff_eq] at h13)
                refine r_skip ?_
                refine r_seq ?_
                refine r_region ?_
                refine r_p (p_move rfl) rfl ?_
                refine r_p (p_move rfl) rfl ?_
                refine r_call (xs := [.tmp 100, .tmp 101]) (crash_spec D v m false false left3 dur3 [] vq q (by have := hg3.len; omega)) cb25 [160, 161, 162] [(false, 2)] [160, 161, 162] [] rfl rfl rfl rfl rfl rfl rfl rfl (fun _ _ => rfl) (fun _ _ _ => rfl) rfl (fun _ _ => ?_)
                rw [crash_idle]
                refine r_nil ?_
                refine r_seq ?_
                refine r_region ?_
                refine r_p (p_move rfl) rfl ?_
                refine r_call (xs := [.tmp 104]) (open_run D v m false left3 dur3 hg3 hh3) cb30 [160, 161, 162] [] [163, 160, 161, 162] [48] rfl rfl rfl rfl rfl rfl rfl rfl (fun _ _ => rfl) (fun _ _ _ => rfl) rfl (fun jx hjx => ?_)
                obtain ⟨J4, l4⟩ := jx
                dsimp only at hjx ⊢
                have hl4 : l4.sn = xa.sn := hjx
                refine r_addG 164 (A := ownX 35 (acV D) nilS []) ownX_nil ?_
                have m4_ : l4.Sm := mxa.congr hl4
                refine r_p (p_move rfl) rfl ?_
                refine r_p (p_extract rfl rfl) rfl ?_
                refine r_p (p_extract rfl rfl) rfl ?_
                refine r_p (p_assign rfl) rfl ?_
                refine r_p (p_assign rfl) rfl ?_
                refine r_nil ?_
                refine r_seq ?_
                refine r_region ?_
                refine r_p (p_move rfl) rfl ?_
                refine r_p (p_move rfl) rfl ?_
                refine r_split (t := 109) rfl (fun h14 => ?_) (fun h14 => False.elim (by simp at h14))
                refine r_gyes rfl rfl ?_
                refine r_p (p_move rfl) rfl ?_
                refine r_gyes rfl rfl ?_
                refine r_p (p_bin rfl rfl (b_nePn Try.underlying49)) rfl ?_
                refine r_p (p_pick rfl rfl rfl (by first | exact pick_and | exact pick_or |  rfl)) rfl ?_
                refine r_p (p_move rfl) rfl ?_
                refine r_split (t := 113) rfl (fun h15 => ?_) (fun h15 => False.elim (by simp at h15))
                refine r_gyes rfl rfl ?_
                refine r_p (p_move rfl) rfl ?_
                refine r_gyes rfl rfl ?_
                refine r_p (p_bin rfl rfl b_eq) rfl ?_
                refine r_p (p_pick rfl rfl rfl (by first | exact pick_and | exact pick_or |  rfl)) rfl ?_
                refine r_p (p_move rfl) rfl ?_
                refine r_split (t := 117) rfl (fun h16 => ?_) (fun h16 => False.elim (by simp at h16))
                refine r_gyes rfl rfl ?_
                refine r_p (p_move rfl) rfl ?_
                refine r_gyes rfl rfl ?_
                refine r_p (p_loadA t59 rfl rfl rfl (g_all (k := 11) rfl)) rfl ?_
                refine r_gyes rfl rfl ?_
                refine r_p (p_move rfl) rfl ?_
                refine r_gyes rfl rfl ?_
                refine r_p (p_bin rfl rfl (b_add (by first | exact w_i64 (by omega) (by omega) | rfl))) rfl ?_
                refine r_gyes rfl rfl ?_
                refine r_call (xs := [.tmp 118, .tmp 119, .tmp 121]) (last_is true J4 D l4 (nn + 1) zSp nilS xa 3 m4_ mxa (by rw [hnv]; exact last_same (by decide) hl4)) cb38 [] [(true, 163), (false, 48), (false, 50)] [] [] rfl rfl rfl rfl rfl rfl rfl rfl (fun _ _ => rfl) (fun _ _ _ => rfl) rfl (fun _ _ => ?_)
                refine r_p (p_pick rfl rfl rfl (by first | exact pick_and | exact pick_or |  rfl)) rfl ?_
                refine r_p (p_assign rfl) rfl ?_
                refine r_nil ?_
                refine r_cret ?_
                refine r_ret () trivial rfl (rs1 (rv_tmp rfl)) (by first | rfl | simp) [] [] rfl rfl rfl
          · have hn1 : nn = 1 := by
              have hl : lastB nn ls2.sn xa.sn 1 = true := by simpa using h9
              simp [lastB] at hl
              exact hl.1
            have hnv : nn + 1 = 2 := by omega
            refine r_skip ?_
            refine r_seq ?_
            refine r_seq ?_
            refine r_region ?_
            refine r_p (p_move rfl) rfl ?_
            refine r_p (p_loadA t59 rfl rfl rfl (g_all (k := 11) rfl)) rfl ?_
            refine r_call (xs := [.tmp 88, .tmp 89]) (written_spec J2 D ls2 nn zSp nilS v m lw dX (by omega) hgX hhX xa oxa (by omega) (by omega)) cb37 [163, 164, 160, 161, 162] [(false, 50)] [163, 164, 160, 161, 162] [59] rfl rfl rfl rfl rfl rfl rfl rfl (fun _ _ => rfl) (fun _ _ _ => rfl) rfl (fun y hy => ?_)
            obtain ⟨l3, v3, left3, dur3⟩ := y
            obtain ⟨hl3, hg3, hh3⟩ := hy
            dsimp only at hl3 hg3 hh3 ⊢
            have m3_ : l3.Sm := mxa.congr hl3
            refine r_p (p_not rfl) rfl ?_
            refine r_p (p_move rfl) rfl ?_
            refine r_split (t := 92) rfl (fun h17 => False.elim (by simp at h17)) (fun h17 => ?_)
            refine r_gyes rfl rfl ?_
            refine r_p (p_move rfl) rfl ?_
            refine r_gyes rfl rfl ?_
            refine r_p (p_loadA t59 rfl rfl rfl (g_all (k := 11) rfl)) rfl ?_
            refine r_gyes rfl rfl ?_
            refine r_p (p_move rfl) rfl ?_
            refine r_gyes rfl rfl ?_
            refine r_p (p_bin rfl rfl (b_add (by first | exact w_i64 (by omega) (by omega) | rfl))) rfl ?_
            refine r_gyes rfl rfl ?_
            refine r_call (xs := [.tmp 93, .tmp 94, .tmp 96]) (last_is true J2 D l3 (nn + 1) l3 v3 xa 2 m3_ mxa (by rw [hnv]; exact last_same (by decide) hl3)) cb38 [] [(true, 163), (false, 59), (false, 50)] [] [] rfl rfl rfl rfl rfl rfl rfl rfl (fun _ _ => rfl) (fun _ _ _ => rfl) rfl (fun _ _ => ?_)
            refine r_gyes rfl rfl ?_
            refine r_p (p_not rfl) rfl ?_
            refine r_p (p_pick rfl rfl rfl (by first | exact pick_and | exact pick_or |  rfl)) rfl ?_
            refine r_nil ?_
            refine r_cond rfl (fun h18 => ?_) (fun h18 => ?_)
            · exact absurd h18 (by simp)
            · (try simp only [decide_eq_true_eq, decide_eq_false_iff_not, Bool.and_eq_true, Bool.or_eq_true, Bool.and_eq_false_iff, Bool.or_eq_false_iff, Bool.not_eq_true, Bool.not_eq_false, Bool.not_eq_true', Bool.not_eq_false', Bool.not_not, bne_iff_ne, beq_iff_eq] at h18)
              refine r_skip ?_
              refine r_seq ?_
              refine r_region ?_
              refine r_p (p_move rfl) rfl ?_
              refine r_p (p_move rfl) rfl ?_
              refine r_call (xs := [.tmp 100, .tmp 101]) (crash_spec D v m false false left3 dur3 [] vq q (by have := hg3.len; omega)) cb25 [160, 161, 162] [(false, 2)] [160, 161, 162] [] rfl rfl rfl rfl rfl rfl rfl rfl (fun _ _ => rfl) (fun _ _ _ => rfl) rfl (fun _ _ => ?_)
              rw [crash_idle]
              refine r_nil ?_
              refine r_seq ?_
              refine r_region ?_
              refine r_p (p_move rfl) rfl ?_
              refine r_call (xs := [.tmp 104]) (open_run D v m false left3 dur3 hg3 hh3) cb30 [160, 161, 162] [] [163, 160, 161, 162] [48] rfl rfl rfl rfl rfl rfl rfl rfl (fun _ _ => rfl) (fun _ _ _ => rfl) rfl (fun jx hjx => ?_)
              obtain ⟨J4, l4⟩ := jx
              dsimp only at hjx ⊢
              have hl4 : l4.sn = xa.sn := hjx
              refine r_addG 164 (A := ownX 35 (acV D) nilS []) ownX_nil ?_
              have m4_ : l4.Sm := mxa.congr hl4
              refine r_p (p_move rfl) rfl ?_
              refine r_p (p_extract rfl rfl) rfl ?_
              refine r_p (p_extract rfl rfl) rfl ?_
              refine r_p (p_assign rfl) rfl ?_
              refine r_p (p_assign rfl) rfl ?_
              refine r_nil ?_
              refine r_seq ?_
              refine r_region ?_
              refine r_p (p_move rfl) rfl ?_
              refine r_p (p_move rfl) rfl ?_
              refine r_split (t := 109) rfl (fun h19 => ?_) (fun h19 => False.elim (by simp at h19))
              refine r_gyes rfl rfl ?_
              refine r_p (p_move rfl) rfl ?_
              refine r_gyes rfl rfl ?_
              refine r_p (p_bin rfl rfl (b_nePn Try.underlying49)) rfl ?_
              refine r_p (p_pick rfl rfl rfl (by first | exact pick_and | exact pick_or |  rfl)) rfl ?_
              refine r_p (p_move rfl) rfl ?_
              refine r_split (t := 113) rfl (fun h20 => ?_) (fun h20 => False.elim (by simp at h20))
              refine r_gyes rfl rfl ?_
              refine r_p (p_move rfl) rfl ?_
              refine r_gyes rfl rfl ?_
              refine r_p (p_bin rfl rfl b_eq) rfl ?_
              refine r_p (p_pick rfl rfl rfl (by first | exact pick_and | exact pick_or |  rfl)) rfl ?_
              refine r_p (p_move rfl) rfl ?_
              refine r_split (t := 117) rfl (fun h21 => ?_) (fun h21 => False.elim (by simp at h21))
              refine r_gyes rfl rfl ?_
              refine r_p (p_move rfl) rfl ?_
              refine r_gyes rfl rfl ?_
              refine r_p (p_loadA t59 rfl rfl rfl (g_all (k := 11) rfl)) rfl ?_
              refine r_gyes rfl rfl ?_
              refine r_p (p_move rfl) rfl ?_
              refine r_gyes rfl rfl ?_
              refine r_p (p_bin rfl rfl (b_add (by first | exact w_i64 (by omega) (by omega) | rfl))) rfl ?_
              refine r_gyes rfl rfl ?_
              refine r_call (xs := [.tmp 118, .tmp 119, .tmp 121]) (last_is true J4 D l4 (nn + 1) zSp nilS xa 2 m4_ mxa (by rw [hnv]; exact last_same (by decide) hl4)) cb38 [] [(true, 163), (false, 48), (false, 50)] [] [] rfl rfl rfl rfl rfl rfl rfl rfl (fun _ _ => rfl) (fun _ _ _ => rfl) rfl (fun _ _ => ?_)
              refine r_p (p_pick rfl rfl rfl (by first | exact pick_and | exact pick_or |  rfl)) rfl ?_
              refine r_p (p_assign rfl) rfl ?_
              refine r_nil ?_
              refine r_cret ?_
              refine r_ret () trivial rfl (rs1 (rv_tmp rfl)) (by first | rfl | simp) [] [] rfl rfl rfl
    · (try simp only [decide_eq_true_eq, decide_eq_false_iff_not, Bool.and_eq_true, Bool.or_eq_true, Bool.and_eq_false_iff, Bool.or_eq_false_iff, Bool.not_eq_true, Bool.not_eq_false, Bool.not_eq_true', Bool.not_eq_false', Bool.not_not, bne_iff_ne, beq_iff_eq] at h5)
      have hkl : ¬ (k : Int) ≤ st := h5
      refine r_gno rfl rfl rfl rfl ?_
      refine r_gno rfl rfl rfl rfl ?_
      refine r_p (p_pick rfl rfl rfl (by first | exact pick_and | exact pick_or |  rfl)) rfl ?_
      refine r_nil ?_
      refine r_cond rfl (fun h22 => ?_) (fun h22 => ?_)
      · exact absurd h22 (by simp)
      · (try simp only [decide_eq_true_eq, decide_eq_false_iff_not, Bool.and_eq_true, Bool.or_eq_true, Bool.and_eq_false_iff, Bool.or_eq_false_iff, Bool.not_eq_true, Bool.not_eq_false, Bool.not_eq_true', Bool.not_eq_false', Bool.not_not, bne_iff_ne, beq_iff_eq] at h22)
        refine r_exit ?_
        refine r_seq ?_
        refine r_region ?_
        refine r_p (p_move rfl) rfl ?_
        refine r_p (p_move rfl) rfl ?_
        refine r_call (xs := [.tmp 62, .tmp 63]) (crash_spec D v m fo true lw dw fw vq q (by have := hlen; omega)) cb25 [160, 161, 162] [(false, 2)] [160, 161, 162] [] rfl rfl rfl rfl rfl rfl rfl rfl (fun _ _ => rfl) (fun _ _ _ => rfl) rfl (fun _ _ => ?_)
        obtain ⟨dX, hdX⟩ : ∃ z, (sdN q (dw, fw, 0) dw.length).1 = z := ⟨_, rfl⟩
        rw [hdX] at hcr ⊢
        obtain ⟨hgX, hfX, nn, ss, hhX, hcase⟩ := hcr
        rw [hfX]
        have hnn : 1 ≤ nn ∧ nn ≤ 2 := by rcases hcase with ⟨h, _⟩ | ⟨h, _⟩ <;> omega
        refine r_nil ?_
        refine r_seq ?_
        refine r_region ?_
        refine r_p (p_move rfl) rfl ?_
        refine r_call (xs := [.tmp 66]) (open_run D v m false lw dX hgX hhX) cb30 [160, 161, 162] [] [163, 160, 161, 162] [58] rfl rfl rfl rfl rfl rfl rfl rfl (fun _ _ => rfl) (fun _ _ _ => rfl) rfl (fun jx hjx => ?_)
        obtain ⟨J2, ls2⟩ := jx
        dsimp only at hjx ⊢
        have hls2 : ls2.sn = ss := hjx
        refine r_addG 164 (A := ownX 35 (acV D) nilS []) ownX_nil ?_
        have ml2 : ls2.Sm := by
          rcases hcase with ⟨_, h⟩ | ⟨_, h, _⟩
          · exact mxa.congr (hls2.trans h)
          · exact mxb.congr (hls2.trans h)
        refine r_p (p_move rfl) rfl ?_
        refine r_p (p_extract rfl rfl) rfl ?_
        refine r_p (p_extract rfl rfl) rfl ?_
        refine r_p (p_assign rfl) rfl ?_
        refine r_p (p_assign rfl) rfl ?_
        refine r_nil ?_
        refine r_seq ?_
        refine r_seq ?_
        refine r_region ?_
        refine r_p (p_move rfl) rfl ?_
        refine r_p (p_bin rfl rfl (b_eqPn Try.underlying49)) rfl ?_
        refine r_p (p_move rfl) rfl ?_
        refine r_split (t := 72) rfl (fun h23 => False.elim (by simp at h23)) (fun h23 => ?_)
        refine r_gyes rfl rfl ?_
        refine r_p (p_move rfl) rfl ?_
        refine r_gyes rfl rfl ?_
        refine r_p (p_bin rfl rfl b_ne) rfl ?_
        refine r_p (p_pick rfl rfl rfl (by first | exact pick_and | exact pick_or |  rfl)) rfl ?_
        refine r_nil ?_
        refine r_cond rfl (fun h24 => ?_) (fun h24 => ?_)
        · exact absurd h24 (by simp)
        · (try simp only [decide_eq_true_eq, decide_eq_false_iff_not, Bool.and_eq_true, Bool.or_eq_true, Bool.and_eq_false_iff, Bool.or_eq_false_iff, Bool.not_eq_true, Bool.not_eq_false, Bool.not_eq_true', Bool.not_eq_false', Bool.not_not, bne_iff_ne, beq_iff_eq] at h24)
          refine r_skip ?_
          refine r_seq ?_
          refine r_region ?_
          refine r_p (p_assign rfl) rfl ?_
          refine r_nil ?_
          refine r_seq ?_
          refine r_seq ?_
          refine r_region ?_
          refine r_p (p_move rfl) rfl ?_
          refine r_p (p_loadA t59 rfl rfl rfl (g_all (k := 11) rfl)) rfl ?_
          refine r_call (xs := [.tmp 76, .tmp 77, .const (.int .i64 1)]) (last_spec38 J2 D ls2 nn zSp nilS xa 1 ml2 mxa) cb38 [] [(true, 163), (false, 58), (false, 50)] [] [] rfl rfl rfl rfl rfl rfl rfl rfl (fun _ _ => rfl) (fun _ _ _ => rfl) rfl (fun _ _ => ?_)
          refine r_p (p_not rfl) rfl ?_
          refine r_nil ?_
          refine r_cond rfl (fun h25 => ?_) (fun h25 => ?_)
          · have hn2 : nn = 2 ∧ ss = xb.sn ∧ 0 < st := by
              rcases hcase with h | h
              · exfalso
                have hl : lastB nn ls2.sn xa.sn 1 = true := by rw [h.1]; exact last_same (by decide) (hls2.trans h.2)
                rw [hl] at h25
                simp at h25
              · exact h
            have hnv : nn + 1 = 3 := by omega
            refine r_seq ?_
            refine r_region ?_
            refine r_p (p_assign rfl) rfl ?_
            refine r_nil ?_
            refine r_seq ?_
            refine r_region ?_
            refine r_p (p_move rfl) rfl ?_
            refine r_p (p_bin rfl rfl b_eq) rfl ?_
            refine r_p (p_move rfl) rfl ?_
            refine r_split (t := 82) rfl (fun h26 => False.elim (by simp at h26; omega)) (fun h26 => ?_)
            refine r_gyes rfl rfl ?_
            refine r_p (p_move rfl) rfl ?_
            refine r_gyes rfl rfl ?_
            refine r_p (p_loadA t59 rfl rfl rfl (g_all (k := 12) rfl)) rfl ?_
            refine r_gyes rfl rfl ?_
            refine r_call (xs := [.tmp 83, .tmp 84, .const (.int .i64 2)]) (last_is true J2 D ls2 nn zSp nilS xb 2 ml2 mxb (by rw [hn2.1]; exact last_same (by decide) (hls2.trans hn2.2.1))) cb38 [] [(true, 163), (false, 58), (false, 51)] [] [] rfl rfl rfl rfl rfl rfl rfl rfl (fun _ _ => rfl) (fun _ _ _ => rfl) rfl (fun _ _ => ?_)
            refine r_gyes rfl rfl ?_
            refine r_p (p_not rfl) rfl ?_
            refine r_p (p_pick rfl rfl rfl (by first | exact pick_and | exact pick_or |  rfl)) rfl ?_
            refine r_nil ?_
            refine r_cond rfl (fun h27 => ?_) (fun h27 => ?_)
            · (simp at h27)
            · (try simp only [decide_eq_true_eq, decide_eq_false_iff_not, Bool.and_eq_true, Bool.or_eq_true, Bool.and_eq_false_iff, Bool.or_eq_false_iff, Bool.not_eq_true, Bool.not_eq_false, Bool.not_eq_true', Bool.not_eq_false', Bool.not_not, bne_iff_ne, beq_iff_eq] at h27)
              refine r_skip ?_
              refine r_seq ?_
              refine r_seq ?_
              refine r_region ?_
              refine r_p (p_move rfl) rfl ?_
              refine r_p (p_loadA t59 rfl rfl rfl (g_all (k := 11) rfl)) rfl ?_
              refine r_call (xs := [.tmp 88, .tmp 89]) (written_spec J2 D ls2 nn zSp nilS v m lw dX (by omega) hgX hhX xa oxa (by omega) (by omega)) cb37 [163, 164, 160, 161, 162] [(false, 50)] [163, 164, 160, 161, 162] [59] rfl rfl rfl rfl rfl rfl rfl rfl (fun _ _ => rfl) (fun _ _ _ => rfl) rfl (fun y hy => ?_)
              obtain ⟨l3, v3, left3, dur3⟩ := y
              obtain ⟨hl3, hg3, hh3⟩ := hy
              dsimp only at hl3 hg3 hh3 ⊢
              have m3_ : l3.Sm := mxa.congr hl3
              refine r_p (p_not rfl) rfl ?_
              refine r_p (p_move rfl) rfl ?_
              refine r_split (t := 92) rfl (fun h28 => False.elim (by simp at h28)) (fun h28 => ?_)
              refine r_gyes rfl rfl ?_
              refine r_p (p_move rfl) rfl ?_
              refine r_gyes rfl rfl ?_
              refine r_p (p_loadA t59 rfl rfl rfl (g_all (k := 11) rfl)) rfl ?_
              refine r_gyes rfl rfl ?_
              refine r_p (p_move rfl) rfl ?_
              refine r_gyes rfl rfl ?_
              refine r_p (p_bin rfl rfl (b_add (by first | exact w_i64 (by omega) (by omega) | rfl))) rfl ?_
              refine r_gyes rfl rfl ?_
              refine r_call (xs := [.tmp 93, .tmp 94, .tmp 96]) (last_is true J2 D l3 (nn + 1) l3 v3 xa 3 m3_ mxa (by rw [hnv]; exact last_same (by decide) hl3)) cb38 [] [(true, 163), (false, 59), (false, 50)] [] [] rfl rfl rfl rfl rfl rfl rfl rfl (fun _ _ => rfl) (fun _ _ _ => rfl) rfl (fun _ _ => ?_)
              refine r_gyes rfl rfl ?_
              refine r_p (p_not rfl) rfl ?_
              refine r_p (p_pick rfl rfl rfl (by first | exact pick_and | exact pick_or |  rfl)) rfl ?_
              refine r_nil ?_
              refine r_cond rfl (fun h29 => ?_) (fun h29 => ?_)
              · exact absurd h29 (by simp)
              · (try simp only [decide_eq_true_eq, decide_eq_false_iff_not, Bool.and_eq_true, Bool.or_eq_true, Bool.and_eq_false_iff, Bool.or_eq_false_iff, Bool.not_eq_true, Bool.not_eq_false, Bool.not_eq_true', Bool.not_eq_false', Bool.not_not, bne_iff_ne, beq_iff_eq] at h29)
                refine r_skip ?_
                refine r_seq ?_
                refine r_region ?_
                refine r_p (p_move rfl) rfl ?_
                refine r_p (p_move rfl) rfl ?_
                refine r_call (xs := [.tmp 100, .tmp 101]) (crash_spec D v m false false left3 dur3 [] vq q (by have := hg3.len; omega)) cb25 [160, 161, 162] [(false, 2)] [160, 161, 162] [] rfl rfl rfl rfl rfl rfl rfl rfl (fun _ _ => rfl) (fun _ _ _ => rfl) rfl (fun _ _ => ?_)
                rw [crash_idle]
                refine r_nil ?_
                refine r_seq ?_
                refine r_region ?_
                refine r_p (p_move rfl) rfl ?_
                refine r_call (xs := [.tmp 104]) (open_run D v m false left3 dur3 hg3 hh3) cb30 [160, 161, 162] [] [163, 160, 161, 162] [48] rfl rfl rfl rfl rfl rfl rfl rfl (fun _ _ => rfl) (fun _ _ _ => rfl) rfl (fun jx hjx => ?_)
                obtain ⟨J4, l4⟩ := jx
                dsimp only at hjx ⊢
                have hl4 : l4.sn = xa.sn := hjx
                refine r_addG 164 (A := ownX 35 (acV D) nilS []) ownX_nil ?_
                have m4_ : l4.Sm := mxa.congr hl4
                refine r_p (p_move rfl) rfl ?_
                refine r_p (p_extract rfl rfl) rfl ?_
                refine r_p (p_extract rfl rfl) rfl ?_
                refine r_p (p_assign rfl) rfl ?_
                refine r_p (p_assign rfl) rfl ?_
                refine r_nil ?_
                refine r_seq ?_
                refine r_region ?_
                refine r_p (p_move rfl) rfl ?_
                refine r_p (p_move rfl) rfl ?_
                refine r_split (t := 109) rfl (fun h30 => ?_) (fun h30 => False.elim (by simp at h30))
                refine r_gyes rfl rfl ?_
                refine r_p (p_move rfl) rfl ?_
                refine r_gyes rfl rfl ?_
                refine r_p (p_bin rfl rfl (b_nePn Try.underlying49)) rfl ?_
                refine r_p (p_pick rfl rfl rfl (by first | exact pick_and | exact pick_or |  rfl)) rfl ?_
                refine r_p (p_move rfl) rfl ?_
                refine r_split (t := 113) rfl (fun h31 => ?_) (fun h31 => False.elim (by simp at h31))
                refine r_gyes rfl rfl ?_
                refine r_p (p_move rfl) rfl ?_
                refine r_gyes rfl rfl ?_
                refine r_p (p_bin rfl rfl b_eq) rfl ?_
                refine r_p (p_pick rfl rfl rfl (by first | exact pick_and | exact pick_or |  rfl)) rfl ?_
                refine r_p (p_move rfl) rfl ?_
                refine r_split (t := 117) rfl (fun h32 => ?_) (fun h32 => False.elim (by simp at h32))
                refine r_gyes rfl rfl ?_
                refine r_p (p_move rfl) rfl ?_
                refine r_gyes rfl rfl ?_
                refine r_p (p_loadA t59 rfl rfl rfl (g_all (k := 11) rfl)) rfl ?_
                refine r_gyes rfl rfl ?_
                refine r_p (p_move rfl) rfl ?_
                refine r_gyes rfl rfl ?_
                refine r_p (p_bin rfl rfl (b_add (by first | exact w_i64 (by omega) (by omega) | rfl))) rfl ?_
                refine r_gyes rfl rfl ?_
                refine r_call (xs := [.tmp 118, .tmp 119, .tmp 121]) (last_is true J4 D l4 (nn + 1) zSp nilS xa 3 m4_ mxa (by rw [hnv]; exact last_same (by decide) hl4)) cb38 [] [(true, 163), (false, 48), (false, 50)] [] [] rfl rfl rfl rfl rfl rfl rfl rfl (fun _ _ => rfl) (fun _ _ _ => rfl) rfl (fun _ _ => ?_)
                refine r_p (p_pick rfl rfl rfl (by first | exact pick_and | exact pick_or |  rfl)) rfl ?_
                refine r_p (p_assign rfl) rfl ?_
                refine r_nil ?_
                refine r_cret ?_
                refine r_ret () trivial rfl (rs1 (rv_tmp rfl)) (by first | rfl | simp) [] [] rfl rfl rfl
          · have hn1 : nn = 1 := by
              have hl : lastB nn ls2.sn xa.sn 1 = true := by simpa using h25
              simp [lastB] at hl
              exact hl.1
            have hnv : nn + 1 = 2 := by omega
            refine r_skip ?_
            refine r_seq ?_
            refine r_seq ?_
            refine r_region ?_
            refine r_p (p_move rfl) rfl ?_
            refine r_p (p_loadA t59 rfl rfl rfl (g_all (k := 11) rfl)) rfl ?_
            refine r_call (xs := [.tmp 88, .tmp 89]) (written_spec J2 D ls2 nn zSp nilS v m lw dX (by omega) hgX hhX xa oxa (by omega) (by omega)) cb37 [163, 164, 160, 161, 162] [(false, 50)] [163, 164, 160, 161, 162] [59] rfl rfl rfl rfl rfl rfl rfl rfl (fun _ _ => rfl) (fun _ _ _ => rfl) rfl (fun y hy => ?_)
            obtain ⟨l3, v3, left3, dur3⟩ := y
            obtain ⟨hl3, hg3, hh3⟩ := hy
            dsimp only at hl3 hg3 hh3 ⊢
            have m3_ : l3.Sm := mxa.congr hl3
            refine r_p (p_not rfl) rfl ?_
            refine r_p (p_move rfl) rfl ?_
            refine r_split (t := 92) rfl (fun h33 => False.elim (by simp at h33)) (fun h33 => ?_)
            refine r_gyes rfl rfl ?_
            refine r_p (p_move rfl) rfl ?_
            refine r_gyes rfl rfl ?_
            refine r_p (p_loadA t59 rfl rfl rfl (g_all (k := 11) rfl)) rfl ?_
            refine r_gyes rfl rfl ?_
            refine r_p (p_move rfl) rfl ?_
            refine r_gyes rfl rfl ?_
            refine r_p (p_bin rfl rfl (b_add (by first | exact w_i64 (by omega) (by omega) | rfl))) rfl ?_
            refine r_gyes rfl rfl ?_
            refine r_call (xs := [.tmp 93, .tmp 94, .tmp 96]) (last_is true J2 D l3 (nn + 1) l3 v3 xa 2 m3_ mxa (by rw [hnv]; exact last_same (by decide) hl3)) cb38 [] [(true, 163), (false, 59), (false, 50)] [] [] rfl rfl rfl rfl rfl rfl rfl rfl (fun _ _ => rfl) (fun _ _ _ => rfl) rfl (fun _ _ => ?_)
            refine r_gyes rfl rfl ?_
            refine r_p (p_not rfl) rfl ?_
            refine r_p (p_pick rfl rfl rfl (by first | exact pick_and | exact pick_or |  rfl)) rfl ?_
            refine r_nil ?_
            refine r_cond rfl (fun h34 => ?_) (fun h34 => ?_)
            · exact absurd h34 (by simp)
            · (try simp only [decide_eq_true_eq, decide_eq_false_iff_not, Bool.and_eq_true, Bool.or_eq_true, Bool.and_eq_false_iff, Bool.or_eq_false_iff, Bool.not_eq_true, Bool.not_eq_false, Bool.not_eq_true', Bool.not_eq_false', Bool.not_not, bne_iff_ne, beq_iff_eq] at h34)
              refine r_skip ?_
              refine r_seq ?_
              refine r_region ?_
              refine r_p (p_move rfl) rfl ?_
              refine r_p (p_move rfl) rfl ?_
              refine r_call (xs := [.tmp 100, .tmp 101]) (crash_spec D v m false false left3 dur3 [] vq q (by have := hg3.len; omega)) cb25 [160, 161, 162] [(false, 2)] [160, 161, 162] [] rfl rfl rfl rfl rfl rfl rfl rfl (fun _ _ => rfl) (fun _ _ _ => rfl) rfl (fun _ _ => ?_)
              rw [crash_idle]
              refine r_nil ?_
              refine r_seq ?_
              refine r_region ?_
              refine r_p (p_move rfl) rfl ?_
              refine r_call (xs := [.tmp 104]) (open_run D v m false left3 dur3 hg3 hh3) cb30 [160, 161, 162] [] [163, 160, 161, 162] [48] rfl rfl rfl rfl rfl rfl rfl rfl (fun _ _ => rfl) (fun _ _ _ => rfl) rfl (fun jx hjx => ?_)
              obtain ⟨J4, l4⟩ := jx
              dsimp only at hjx ⊢
              have hl4 : l4.sn = xa.sn := hjx
              refine r_addG 164 (A := ownX 35 (acV D) nilS []) ownX_nil ?_
              have m4_ : l4.Sm := mxa.congr hl4
              refine r_p (p_move rfl) rfl ?_
              refine r_p (p_extract rfl rfl) rfl ?_
              refine r_p (p_extract rfl rfl) rfl ?_
              refine r_p (p_assign rfl) rfl ?_
              refine r_p (p_assign rfl) rfl ?_
              refine r_nil ?_
              refine r_seq ?_
              refine r_region ?_
              refine r_p (p_move rfl) rfl ?_
              refine r_p (p_move rfl) rfl ?_
              refine r_split (t := 109) rfl (fun h35 => ?_) (fun h35 => False.elim (by simp at h35))
              refine r_gyes rfl rfl ?_
              refine r_p (p_move rfl) rfl ?_
              refine r_gyes rfl rfl ?_
              refine r_p (p_bin rfl rfl (b_nePn Try.underlying49)) rfl ?_
              refine r_p (p_pick rfl rfl rfl (by first | exact pick_and | exact pick_or |  rfl)) rfl ?_
              refine r_p (p_move rfl) rfl ?_
              refine r_split (t := 113) rfl (fun h36 => ?_) (fun h36 => False.elim (by simp at h36))
              refine r_gyes rfl rfl ?_
              refine r_p (p_move rfl) rfl ?_
              refine r_gyes rfl rfl ?_
              refine r_p (p_bin rfl rfl b_eq) rfl ?_
              refine r_p (p_pick rfl rfl rfl (by first | exact pick_and | exact pick_or |  rfl)) rfl ?_
              refine r_p (p_move rfl) rfl ?_
              refine r_split (t := 117) rfl (fun h37 => ?_) (fun h37 => False.elim (by simp at h37))
              refine r_gyes rfl rfl ?_
              refine r_p (p_move rfl) rfl ?_
              refine r_gyes rfl rfl ?_
              refine r_p (p_loadA t59 rfl rfl rfl (g_all (k := 11) rfl)) rfl ?_
              refine r_gyes rfl rfl ?_
              refine r_p (p_move rfl) rfl ?_
              refine r_gyes rfl rfl ?_
              refine r_p (p_bin rfl rfl (b_add (by first | exact w_i64 (by omega) (by omega) | rfl))) rfl ?_
              refine r_gyes rfl rfl ?_
              refine r_call (xs := [.tmp 118, .tmp 119, .tmp 121]) (last_is true J4 D l4 (nn + 1) zSp nilS xa 2 m4_ mxa (by rw [hnv]; exact last_same (by decide) hl4)) cb38 [] [(true, 163), (false, 48), (false, 50)] [] [] rfl rfl rfl rfl rfl rfl rfl rfl (fun _ _ => rfl) (fun _ _ _ => rfl) rfl (fun _ _ => ?_)
              refine r_p (p_pick rfl rfl rfl (by first | exact pick_and | exact pick_or |  rfl)) rfl ?_
              refine r_p (p_assign rfl) rfl ?_
              refine r_nil ?_
              refine r_cret ?_
              refine r_ret () trivial rfl (rs1 (rv_tmp rfl)) (by first | rfl | simp) [] [] rfl rfl rfl

end Go.Proofs.Ytohenjmkhncoiaa
