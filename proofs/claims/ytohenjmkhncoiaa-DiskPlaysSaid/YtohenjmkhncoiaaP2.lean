/-
  The example of the chapter. No condition.
-/
import Derived.Test.YtohenjmkhncoiaaYZ
namespace Go.Proofs.Ytohenjmkhncoiaa
set_option linter.unusedSimpArgs false
set_option linter.unusedVariables false
open Go.RowKit

section
variable {N : Nat} {w0 : World} {M H : Nat → Prop} {E : Env} {Γ R : Ctx}
theorem r_addG (k : Nat) {A : Asn} {Rel : Act → World → Prop} (hA : ∀ w, A.pred w (fun _ => False)) (h : At N w0 M H E ((k, A) :: Γ) R Rel) : At N w0 M H E Γ R Rel := fun a w hE hC => h a w hE (hC.new (Touch.refl _ w) ⟨fun _ => False, hA w, fun b hb => hb.elim⟩)
end
theorem okI_xq {q : List Int} (h : ∀ x ∈ q, okI x) (i : Nat) : okI (xq q i) := by
  unfold xq
  rw [List.getD_eq_getElem?_getD]
  cases hx : (q.take 12)[i]? with
  | none => exact ⟨by decide, by decide⟩
  | some x => exact h x (List.mem_of_mem_take (List.mem_of_getElem? hx))
set_option maxRecDepth 100000 in
theorem open_run (D : Nat) (v : SV) (m : Nat) (armed : Bool) (left : Int) (dur : List ByteArray) {S : Nat} {n : Int} {s : Sn} (hg : Geo dur S) (hh : Hold (view dur) (rm S) n s) :
    Spec Try.prog 30 [.pointer (some ⟨D, 0, none⟩)] [row D 94 (dC v (some m) false armed left), mp mkI Prod.fst vS (some m) [], own 9 1 eS (sv v) dur] [] (X := Nat × Sp) (fun x => x.2.sn = s) (fun x => .tuple #[.pointer (some ⟨x.1, 0, none⟩), .int .i64 0]) (fun x => [row x.1 100 (jC D x.2 n zSp nilS), row D 94 (dC v (some m) false armed left), mp mkI Prod.fst vS (some m) [], own 9 1 eS (sv v) dur]) (fun x => [snA x.2]) := by
  have h1 := hg.lo
  have h2 := hg.hi
  have h3 := hg.len
  refine (open_spec D v (some m) armed left dur [] (by omega) (by omega) (geo_size hg)).mono fun x hx => ?_
  rw [h3] at hx
  replace hx := hx.trans (hold_open hh)
  simp only [Prod.mk.injEq] at hx
  exact ⟨(x.1, x.2.1), hx.2, rfl, by rw [hx.1], rfl⟩
set_option maxRecDepth 100000 in
theorem last_is (b : Bool) (J D : Nat) (lst : Sp) (n : Int) (nxt : Sp) (vt : SV) (s : Sp) (k : Int) (hs : lst.Sm) (hs2 : s.Sm) (hb : lastB n lst.sn s.sn k = b) :
    Spec Try.prog 38 [.pointer (some ⟨J, 0, none⟩), snV s, .int .i64 k] [] [row J 100 (jC D lst n nxt vt), snA lst, snA s] (X := Unit) (fun _ => True) (fun _ => .bool b) (fun _ => []) (fun _ => []) := by
  rw [← hb]
  exact last_spec38 J D lst n nxt vt s k hs hs2
theorem last_zero (ls s : Sn) : lastB 0 ls s 0 = true := by simp [lastB]
theorem last_same {n : Int} (hn : n ≠ 0) {ls s : Sn} (h : ls = s) : lastB n ls s n = true := by simp [lastB, hn, h]
theorem last_other {n k : Int} (hn : k ≠ 0) (h : n ≠ k) (ls s : Sn) : lastB n ls s k = false := by simp [lastB, hn, h]
set_option maxRecDepth 100000 in
theorem crash_spec (D : Nat) (v : SV) (m : Nat) (off armed : Bool) (left : Int) (dur : List ByteArray) (fr : List (Int × ByteArray)) (vq : SV) (ql : List Int) (hlen : dur.length ≤ 65536) :
    Spec Try.prog 25 [.pointer (some ⟨D, 0, none⟩), sv vq] [row D 94 (dC v (some m) off armed left), mp mkI Prod.fst vS (some m) fr, own 9 1 eS (sv v) dur] [sl 1 eI (sv vq) ql] (X := Unit) (fun _ => True) (fun _ => .tuple #[]) (fun _ => [row D 94 (dC v (some m) false false left), mp mkI Prod.fst vS (some m) (sdN ql (dur, fr, 0) dur.length).2.1, own 9 1 eS (sv v) (sdN ql (dur, fr, 0) dur.length).1]) (fun _ => []) := by
  by_cases hq : 0 < ql.length
  · exact crash_n D v m off armed left dur fr vq ql hlen hq
  · exact crash_e D v m off armed left dur fr vq ql hlen hq
theorem todo_cons {n : Int} {S : Nat} {body : ByteArray} {l : List Ac} (h : l.map Ac.plain = planF n (rm S) body) : ∃ a rest, l = a :: rest ∧ 0 < rest.length := by
  have h1 := congrArg List.length h
  rw [List.length_map, plan_eq, List.length_append] at h1
  cases l with
  | nil => simp at h1
  | cons a rest => exact ⟨a, rest, rfl, by simp at h1; omega⟩
theorem made_sm (q : List Int) (a b c d e : SV) : (madeS q a b c d e).Sm := Sp.Sm.of (by have := made_len q; rw [madeS_sn]; omega)

theorem qa_ok : ∀ x ∈ ([1, 2, 3, 4, 5, 6, 7, 5, 9, 40, 11, 12] : List Int), okI x := by simp [okI]
theorem qb_ok : ∀ x ∈ ([2, 2, 3, 4, 5, 6, 7, 5, 9, 80, 11, 12] : List Int), okI x := by simp [okI]
set_option maxHeartbeats 4000000 in
set_option maxRecDepth 100000 in
theorem sanity_spec  :
    Spec Try.prog 15 [] [] [] (X := Unit) (fun _ => True) (fun _ => .bool true) (fun _ => []) (fun _ => []) := by
  refine r_enter Try.func15 rfl Try.ntmps15 rfl fun w0 M H => ?_
  refine r_seq ?_
  refine r_region ?_
  refine r_p (p_assign rfl) rfl ?_
  refine r_nil ?_
  refine r_seq ?_
  refine r_region ?_
  refine r_bslice eI [1, 2, 3, 4, 5, 6, 7, 5, 9, 40, 11, 12] (parts := [(0, .const (.int .i64 1)), (1, .const (.int .i64 2)), (2, .const (.int .i64 3)), (3, .const (.int .i64 4)), (4, .const (.int .i64 5)), (5, .const (.int .i64 6)), (6, .const (.int .i64 7)), (7, .const (.int .i64 5)), (8, .const (.int .i64 9)), (9, .const (.int .i64 40)), (10, .const (.int .i64 11)), (11, .const (.int .i64 12))]) Try.underlying28 t3 rfl (by decide) (by intro _; rfl) rfl (by decide) (by decide) rfl rfl rfl rfl fun v13 => ?_
  refine r_freeze 13 13 rfl own_to_sl ?_
  refine r_call (xs := [.tmp 13]) (made_spec v13 [1, 2, 3, 4, 5, 6, 7, 5, 9, 40, 11, 12]) cb31 [] [(false, 13)] [] [50] rfl rfl rfl rfl rfl rfl rfl rfl (fun _ _ => rfl) (fun _ _ _ => rfl) rfl (fun xa hxa => ?_)
  obtain ⟨xa0, xa1, xa2, xa3, xa4, hxa⟩ := hxa
  have exa : xa.sn = madeF [1, 2, 3, 4, 5, 6, 7, 5, 9, 40, 11, 12] := by rw [hxa]; exact madeS_sn _ _ _ _ _ _
  have oxa : xa.sn.Ok := by rw [exa]; exact made_ok _ (okI_xq qa_ok)
  have lxa : (eSn xa.sn).length ≤ 1000 := by rw [exa]; exact made_len _
  have mxa : xa.Sm := Sp.Sm.of (by omega)
  clear hxa exa
  refine r_alloc t59 rfl rfl fun b1 => ?_
  refine r_store_all (k := 1) t59 rfl rfl rfl rfl rfl rfl ?_
  refine r_nil ?_
  refine r_seq ?_
  refine r_region ?_
  refine r_bslice eI [2, 2, 3, 4, 5, 6, 7, 5, 9, 80, 11, 12] (parts := [(0, .const (.int .i64 2)), (1, .const (.int .i64 2)), (2, .const (.int .i64 3)), (3, .const (.int .i64 4)), (4, .const (.int .i64 5)), (5, .const (.int .i64 6)), (6, .const (.int .i64 7)), (7, .const (.int .i64 5)), (8, .const (.int .i64 9)), (9, .const (.int .i64 80)), (10, .const (.int .i64 11)), (11, .const (.int .i64 12))]) Try.underlying28 t3 rfl (by decide) (by intro _; rfl) rfl (by decide) (by decide) rfl rfl rfl rfl fun v15 => ?_
  refine r_freeze 15 15 rfl own_to_sl ?_
  refine r_call (xs := [.tmp 15]) (made_spec v15 [2, 2, 3, 4, 5, 6, 7, 5, 9, 80, 11, 12]) cb31 [] [(false, 15)] [] [51] rfl rfl rfl rfl rfl rfl rfl rfl (fun _ _ => rfl) (fun _ _ _ => rfl) rfl (fun xb hxb => ?_)
  obtain ⟨xb0, xb1, xb2, xb3, xb4, hxb⟩ := hxb
  have exb : xb.sn = madeF [2, 2, 3, 4, 5, 6, 7, 5, 9, 80, 11, 12] := by rw [hxb]; exact madeS_sn _ _ _ _ _ _
  have oxb : xb.sn.Ok := by rw [exb]; exact made_ok _ (okI_xq qb_ok)
  have lxb : (eSn xb.sn).length ≤ 1000 := by rw [exb]; exact made_len _
  have mxb : xb.Sm := Sp.Sm.of (by omega)
  clear hxb exb
  refine r_alloc t59 rfl rfl fun b2 => ?_
  refine r_store_all (k := 2) t59 rfl rfl rfl rfl rfl rfl ?_
  refine r_nil ?_
  refine r_seq ?_
  refine r_region ?_
  refine r_call (xs := [.const (.int .i64 64)]) (newdisk_spec 64) cb16 [] [] [60, 61, 62] [] rfl rfl rfl rfl rfl rfl rfl rfl (fun _ _ => rfl) (fun _ _ _ => rfl) rfl (fun d3 _ => ?_)
  obtain ⟨D, v, m⟩ := d3
  dsimp only
  refine r_conva (k := 62) (A' := own 9 1 eS (sv v) (List.replicate 64 zsec)) rfl (fun _ _ h => h) ?_
  obtain ⟨hg0, hh0⟩ := hold_new (S := 64) (by decide) (by decide)
  have hrm : rm 64 = 31 := rfl
  refine r_p (p_assign rfl) rfl ?_
  refine r_nil ?_
  refine r_seq ?_
  refine r_region ?_
  refine r_p (p_move rfl) rfl ?_
  refine r_call (xs := [.tmp 19]) (open_run D v m false 0 (List.replicate 64 zsec) hg0 hh0) cb30 [60, 61, 62] [] [63, 60, 61, 62] [52] rfl rfl rfl rfl rfl rfl rfl rfl (fun _ _ => rfl) (fun _ _ _ => rfl) rfl (fun j1 hj1 => ?_)
  obtain ⟨J, lst⟩ := j1
  dsimp only at hj1 ⊢
  have ml : lst.Sm := Sp.Sm.zero.congr hj1
  refine r_addG 64 (A := ownX 35 (acV D) nilS []) ownX_nil ?_
  refine r_p (p_move rfl) rfl ?_
  refine r_p (p_extract rfl rfl) rfl ?_
  refine r_p (p_extract rfl rfl) rfl ?_
  refine r_p (p_assign rfl) rfl ?_
  refine r_p (p_assign rfl) rfl ?_
  refine r_nil ?_
  refine r_seq ?_
  refine r_seq ?_
  refine r_region ?_
  refine r_p (p_move rfl) rfl ?_
  refine r_p (p_bin rfl rfl (b_eqPn Try.underlying49)) rfl ?_
  refine r_p (p_move rfl) rfl ?_
  refine r_split (t := 25) rfl (fun h1 => False.elim (by simp at h1)) (fun h1 => ?_)
  refine r_gyes rfl rfl ?_
  refine r_p (p_move rfl) rfl ?_
  refine r_gyes rfl rfl ?_
  refine r_p (p_bin rfl rfl b_ne) rfl ?_
  refine r_p (p_pick rfl rfl rfl (by first | exact pick_and | exact pick_or |  rfl)) rfl ?_
  refine r_p (p_move rfl) rfl ?_
  refine r_split (t := 29) rfl (fun h2 => False.elim (by simp at h2)) (fun h2 => ?_)
  refine r_gyes rfl rfl ?_
  refine r_p (p_move rfl) rfl ?_
  refine r_gyes rfl rfl ?_
  refine r_p (p_loadA t59 rfl rfl rfl (g_all (k := 1) rfl)) rfl ?_
  refine r_gyes rfl rfl ?_
  refine r_call (xs := [.tmp 30, .tmp 31, .const (.int .i64 0)]) (last_is true J D lst 0 zSp nilS xa 0 ml mxa (last_zero _ _)) cb38 [] [(true, 63), (false, 52), (false, 50)] [] [] rfl rfl rfl rfl rfl rfl rfl rfl (fun _ _ => rfl) (fun _ _ _ => rfl) rfl (fun _ _ => ?_)
  refine r_gyes rfl rfl ?_
  refine r_p (p_not rfl) rfl ?_
  refine r_p (p_pick rfl rfl rfl (by first | exact pick_and | exact pick_or |  rfl)) rfl ?_
  refine r_p (p_move rfl) rfl ?_
  refine r_split (t := 35) rfl (fun h3 => False.elim (by simp at h3)) (fun h3 => ?_)
  refine r_gyes rfl rfl ?_
  refine r_p (p_move rfl) rfl ?_
  refine r_gyes rfl rfl ?_
  refine r_p (p_loadA t59 rfl rfl rfl (g_all (k := 1) rfl)) rfl ?_
  refine r_gyes rfl rfl ?_
  refine r_call (xs := [.tmp 36, .tmp 37]) (written_spec J D lst 0 zSp nilS v m 0 (List.replicate 64 zsec) (by decide) hg0 hh0 xa oxa (by omega) (by omega)) cb37 [63, 64, 60, 61, 62] [(false, 50)] [63, 64, 60, 61, 62] [53] rfl rfl rfl rfl rfl rfl rfl rfl (fun _ _ => rfl) (fun _ _ _ => rfl) rfl (fun y hy => ?_)
  obtain ⟨z, vz, left, dur⟩ := y
  obtain ⟨hz, hg, hh⟩ := hy
  dsimp only at hz hg hh ⊢
  have mz : z.Sm := mxa.congr hz
  refine r_gyes rfl rfl ?_
  refine r_p (p_not rfl) rfl ?_
  refine r_p (p_pick rfl rfl rfl (by first | exact pick_and | exact pick_or |  rfl)) rfl ?_
  refine r_p (p_move rfl) rfl ?_
  refine r_split (t := 41) rfl (fun h4 => False.elim (by simp at h4)) (fun h4 => ?_)
  refine r_gyes rfl rfl ?_
  refine r_p (p_move rfl) rfl ?_
  refine r_gyes rfl rfl ?_
  refine r_p (p_loadA t59 rfl rfl rfl (g_all (k := 1) rfl)) rfl ?_
  refine r_gyes rfl rfl ?_
  refine r_call (xs := [.tmp 42, .tmp 43, .const (.int .i64 1)]) (last_is true J D z (0 + 1) z vz xa 1 mz mxa (last_same (by decide) hz)) cb38 [] [(true, 63), (false, 53), (false, 50)] [] [] rfl rfl rfl rfl rfl rfl rfl rfl (fun _ _ => rfl) (fun _ _ _ => rfl) rfl (fun _ _ => ?_)
  refine r_gyes rfl rfl ?_
  refine r_p (p_not rfl) rfl ?_
  refine r_p (p_pick rfl rfl rfl (by first | exact pick_and | exact pick_or |  rfl)) rfl ?_
  refine r_nil ?_
  refine r_cond rfl (fun h5 => ?_) (fun h5 => ?_)
  · exact absurd h5 (by simp)
  · (try simp only [decide_eq_true_eq, decide_eq_false_iff_not, Bool.and_eq_true, Bool.or_eq_true, Bool.and_eq_false_iff, Bool.or_eq_false_iff, Bool.not_eq_true, Bool.not_eq_false, Bool.not_eq_true', Bool.not_eq_false', Bool.not_not, bne_iff_ne, beq_iff_eq] at h5)
    refine r_skip ?_
    refine r_seq ?_
    refine r_region ?_
    refine r_p (p_move rfl) rfl ?_
    refine r_p (p_loadA t59 rfl rfl rfl (g_all (k := 2) rfl)) rfl ?_
    refine r_call (xs := [.tmp 47, .tmp 48]) (begin_ok J D z (0 + 1) z vz v m false false left dur (by decide) (by have := hg.len; omega) (by have := hg.len; omega) xb oxb (by omega) (by rw [hg.len]; show (eSn xb.sn).length ≤ rm 64 * 64; omega)) cb42 [63, 64, 60, 62] [(false, 51)] [63, 64, 60, 62] [54, 55] rfl rfl rfl rfl rfl rfl rfl rfl (fun _ _ => rfl) (fun _ _ _ => rfl) rfl (fun t ht => ?_)
    obtain ⟨nx, vt, todo⟩ := t
    obtain ⟨hn1, hn2⟩ := ht
    dsimp only at hn1 hn2 ⊢
    rw [hg.len] at hn2
    have hF : Fits 64 (ofI (eSn xb.sn)) xb.sn := fits_of oxb (by omega) (by omega)
    obtain ⟨a, rest, rfl, hr⟩ := todo_cons (S := 64) hn2
    have hph : Phase (0 + 1) 64 (ofI (eSn xb.sn)) dur [] 0 ((a :: rest).map Ac.plain) := by rw [hn2]; exact phase_init
    refine r_p (p_assign rfl) rfl ?_
    refine r_nil ?_
    refine r_seq ?_
    refine r_region ?_
    refine r_p (p_move rfl) rfl ?_
    refine r_call (xs := [.tmp 51]) (step_run J D z (0 + 1) nx vt v m false false left dur [] a rest (by decide) hg hh hF hph) cb43 [63, 64, 60, 61, 62] [(false, 55)] [63, 64, 60, 61, 62] [] rfl rfl rfl rfl rfl rfl rfl rfl (fun _ _ => rfl) (fun _ _ _ => rfl) rfl (fun y hy => ?_)
    obtain ⟨so, d⟩ := y
    obtain ⟨hst, hso⟩ := hy
    dsimp only at hst hso ⊢
    have hde : d.e = 0 := hst.he.trans (if_neg (by simp [pwO]))
    have hdo : d.off = false := hst.ho
    have hgd := hst.good rfl
    rw [hde, stepO_more hr] at hso
    subst hso
    dsimp only
    have hgm := hgd.2.resolve_right (fun h => by have := h.1; rw [List.map_eq_nil_iff] at this; rw [this] at hr; simp at hr)
    obtain ⟨b, rest2, rfl⟩ : ∃ b rest2, rest = b :: rest2 := by
      cases rest with
      | nil => simp at hr
      | cons b r2 => exact ⟨b, r2, rfl⟩
    obtain ⟨de, doff, dleft, ddur, dfr⟩ := d
    dsimp only at hdo hgm hgd ⊢
    subst hdo
    refine r_more 55 56 rfl (actsA_sub (l' := b :: rest2) fun c hc => List.mem_cons_of_mem _ hc) ?_
    refine r_p (p_move rfl) rfl ?_
    refine r_p (p_extract rfl rfl) rfl ?_
    refine r_p (p_extract rfl rfl) rfl ?_
    refine r_p (p_assign rfl) rfl ?_
    refine r_p (p_assign rfl) rfl ?_
    refine r_nil ?_
    refine r_seq ?_
    refine r_region ?_
    refine r_p (p_move rfl) rfl ?_
    refine r_call (xs := [.tmp 55, .const (.int .i64 0)]) (arm_spec D v (some m) false false dleft 0) cb23 [60] [] [60] [] rfl rfl rfl rfl rfl rfl rfl rfl (fun _ _ => rfl) (fun _ _ _ => rfl) rfl (fun _ _ => ?_)
    refine r_nil ?_
    refine r_seq ?_
    refine r_region ?_
    refine r_p (p_move rfl) rfl ?_
    refine r_call (xs := [.tmp 58]) (step_run J D z (0 + 1) nx (loS vt 1 1) v m false true 0 ddur dfr b rest2 (by decide) hgd.1 hgm.2.1 hF hgm.2.2) cb43 [63, 64, 60, 61, 62] [(false, 56)] [63, 64, 60, 61, 62] [] rfl rfl rfl rfl rfl rfl rfl rfl (fun _ _ => rfl) (fun _ _ _ => rfl) rfl (fun y hy => ?_)
    obtain ⟨so, d⟩ := y
    obtain ⟨hst, hso⟩ := hy
    dsimp only at hst hso ⊢
    have hde2 : d.e = 50 := hst.he.trans (if_pos (by simp [pwO]))
    obtain ⟨hbd, hbf⟩ := hst.bad (by simp [pwO])
    rw [hde2, stepO_err] at hso
    subst hso
    obtain ⟨de2, doff2, dleft2, ddur2, dfr2⟩ := d
    dsimp only at hbd hbf ⊢
    subst hbd
    subst hbf
    refine r_nilsl 57 (α := Int) (s := 1) (enc := eI) ?_
    refine r_p (p_move rfl) rfl ?_
    refine r_p (p_extract rfl rfl) rfl ?_
    refine r_p (p_extract rfl rfl) rfl ?_
    refine r_p (p_assign rfl) rfl ?_
    refine r_p (p_assign rfl) rfl ?_
    refine r_nil ?_
    refine r_seq ?_
    refine r_region ?_
    refine r_p (p_move rfl) rfl ?_
    refine r_call (xs := [.tmp 62, .const (.slice Option.none 0 0)]) (crash_spec D v m doff2 true dleft2 ddur2 dfr2 nilS [] (by have := hgd.1.len; have := hgd.1.hi; omega)) cb25 [60, 61, 62] [(false, 57)] [60, 61, 62] [] rfl rfl rfl rfl rfl rfl rfl rfl (fun _ _ => rfl) (fun _ _ _ => rfl) rfl (fun _ _ => ?_)
    obtain ⟨hc1, hc2, hc3⟩ := crash_good [] hgd.1 hgm.2.1 hF (by decide) hgm.2.2
    have hc4 := hc3.resolve_right (fun h => by
      have := h.1
      have hb : 64 ≤ (ofI (eSn xb.sn)).size := by rw [ofI_size, eSn_len]; omega
      unfold nbk at this
      omega)
    rw [hc2]
    refine r_nil ?_
    refine r_seq ?_
    refine r_region ?_
    refine r_p (p_move rfl) rfl ?_
    refine r_call (xs := [.tmp 65]) (open_run D v m false dleft2 (sdN [] (ddur2, dfr2, 0) ddur2.length).1 hc1 hc4) cb30 [60, 61, 62] [] [70, 60, 61, 62] [58] rfl rfl rfl rfl rfl rfl rfl rfl (fun _ _ => rfl) (fun _ _ _ => rfl) rfl (fun j2 hj2 => ?_)
    obtain ⟨J2, ls2⟩ := j2
    dsimp only at hj2 ⊢
    have ml2 : ls2.Sm := mxa.congr hj2
    refine r_p (p_move rfl) rfl ?_
    refine r_p (p_extract rfl rfl) rfl ?_
    refine r_p (p_extract rfl rfl) rfl ?_
    refine r_p (p_assign rfl) rfl ?_
    refine r_p (p_assign rfl) rfl ?_
    refine r_nil ?_
    refine r_seq ?_
    refine r_region ?_
    refine r_p (p_move rfl) rfl ?_
    refine r_p (p_bin rfl rfl b_eq) rfl ?_
    refine r_p (p_move rfl) rfl ?_
    refine r_split (t := 71) rfl (fun h6 => ?_) (fun h6 => False.elim (by simp at h6))
    refine r_gyes rfl rfl ?_
    refine r_p (p_move rfl) rfl ?_
    refine r_gyes rfl rfl ?_
    refine r_p (p_bin rfl rfl b_eq) rfl ?_
    refine r_p (p_pick rfl rfl rfl (by first | exact pick_and | exact pick_or |  rfl)) rfl ?_
    refine r_p (p_move rfl) rfl ?_
    refine r_split (t := 75) rfl (fun h7 => ?_) (fun h7 => False.elim (by simp at h7))
    refine r_gyes rfl rfl ?_
    refine r_p (p_move rfl) rfl ?_
    refine r_gyes rfl rfl ?_
    refine r_p (p_bin rfl rfl b_eq) rfl ?_
    refine r_p (p_pick rfl rfl rfl (by first | exact pick_and | exact pick_or |  rfl)) rfl ?_
    refine r_p (p_move rfl) rfl ?_
    refine r_split (t := 79) rfl (fun h8 => ?_) (fun h8 => False.elim (by simp at h8))
    refine r_gyes rfl rfl ?_
    refine r_p (p_move rfl) rfl ?_
    refine r_gyes rfl rfl ?_
    refine r_p (p_bin rfl rfl b_eq) rfl ?_
    refine r_p (p_pick rfl rfl rfl (by first | exact pick_and | exact pick_or |  rfl)) rfl ?_
    refine r_p (p_move rfl) rfl ?_
    refine r_split (t := 83) rfl (fun h9 => ?_) (fun h9 => False.elim (by simp at h9))
    refine r_gyes rfl rfl ?_
    refine r_p (p_move rfl) rfl ?_
    refine r_gyes rfl rfl ?_
    refine r_p (p_bin rfl rfl (b_nePn Try.underlying49)) rfl ?_
    refine r_p (p_pick rfl rfl rfl (by first | exact pick_and | exact pick_or |  rfl)) rfl ?_
    refine r_p (p_move rfl) rfl ?_
    refine r_split (t := 87) rfl (fun h10 => ?_) (fun h10 => False.elim (by simp at h10))
    refine r_gyes rfl rfl ?_
    refine r_p (p_move rfl) rfl ?_
    refine r_gyes rfl rfl ?_
    refine r_p (p_loadA t59 rfl rfl rfl (g_all (k := 1) rfl)) rfl ?_
    refine r_gyes rfl rfl ?_
    refine r_call (xs := [.tmp 88, .tmp 89, .const (.int .i64 1)]) (last_is true J2 D ls2 (0 + 1) zSp nilS xa 1 ml2 mxa (last_same (by decide) hj2)) cb38 [] [(true, 70), (false, 58), (false, 50)] [] [] rfl rfl rfl rfl rfl rfl rfl rfl (fun _ _ => rfl) (fun _ _ _ => rfl) rfl (fun _ _ => ?_)
    refine r_p (p_pick rfl rfl rfl (by first | exact pick_and | exact pick_or |  rfl)) rfl ?_
    refine r_p (p_assign rfl) rfl ?_
    refine r_nil ?_
    refine r_cret ?_
    refine r_ret () trivial rfl (rs1 (rv_tmp rfl)) rfl [] [] rfl rfl rfl

end Go.Proofs.Ytohenjmkhncoiaa
