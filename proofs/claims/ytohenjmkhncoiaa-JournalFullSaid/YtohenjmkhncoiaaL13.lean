/-
  The walk of JournalFull. No condition.
-/
import Derived.Test.YtohenjmkhncoiaaP2
namespace Go.Proofs.Ytohenjmkhncoiaa
set_option linter.unusedSimpArgs false
set_option linter.unusedVariables false
open Go.RowKit

def fullS (k : Nat) (vd : SV) : Sp := ⟨1, 0, 0, 0, 0, fun _ => 0, fun _ => 0, [], [fillS 7 k], [], [], [], nilS, vd, nilS, nilS, nilS⟩
theorem full_ok (k : Nat) (hk : k < 4000) (vd : SV) : (fullS k vd).sn.Ok := by
  have hz : okI 0 := ⟨by decide, by decide⟩
  have hw : okW 0 := ⟨by decide, by decide⟩
  have h0 : (((0 : Nat) : Int)) < 9223372036854775808 := by decide
  have h1 : (((1 : Nat) : Int)) < 9223372036854775808 := by decide
  refine ⟨⟨by show (-9223372036854775808 : Int) ≤ 1; decide, by show (1 : Int) < 9223372036854775808; decide⟩, hz, hz, hw, hw, ⟨fun a ha => ?_, by simp [fullS, Sp.sn]⟩, ⟨fun a ha => ?_, by simp [fullS, Sp.sn]⟩, ⟨fun a ha => ?_, h0⟩, ⟨fun a ha => ?_, h1⟩, ⟨fun a ha => ?_, h0⟩, ⟨fun a ha => ?_, h0⟩, ⟨fun a ha => ?_, h0⟩⟩
  · obtain ⟨i, _, rfl⟩ := List.mem_map.1 ha
    exact hw
  · obtain ⟨i, _, rfl⟩ := List.mem_map.1 ha
    exact hw
  · simp [fullS, Sp.sn] at ha
  · have : a = bytesI (fillS 7 k) := by simpa [fullS, Sp.sn] using ha
    rw [this]
    exact ⟨By_bytesI _, by rw [bytesI_len, fillS_size]; omega⟩
  · simp [fullS, Sp.sn] at ha
  · simp [fullS, Sp.sn] at ha
  · simp [fullS, Sp.sn] at ha
theorem full_len (k : Nat) (vd : SV) : (eSn (fullS k vd).sn).length = 160 + k := by
  rw [eSn_len]
  simp [fullS, eSt_len, fillS_size]
  omega
theorem cast_room (S : Nat) (h : 4 ≤ S) : ((S : Int) - 2).tdiv 2 = ((rm S : Nat) : Int) := by
  have hrm : rm S = (S - 2) / 2 := rfl
  rw [Int.tdiv_eq_ediv_of_nonneg (by omega)]
  omega

structure Fst where
  w : Wst
  lst : Sp
  n : Int
set_option maxHeartbeats 2000000 in
set_option maxRecDepth 100000 in
theorem full_a (a : Int) (ha : 0 ≤ a ∧ a < 256) (b : Int) (hb : 0 ≤ b ∧ b < 65536) (S k : Nat) (hSa : (S : Int) = (4 + a % 100)) (hS : (max 0 (min (4 + a % 100) 65536)).toNat = S) (hkb : (k : Int) = b % 4000) (hf : 160 + k ≤ rm S * 64) :
    Spec Try.prog 13 [.int .u8 a, .int .u16 b] [] [] (X := Unit) (fun _ => True) (fun _ => .bool true) (fun _ => []) (fun _ => []) := by
  refine r_enter Try.func13 rfl Try.ntmps13 rfl fun w0 M H => ?_
  have hS4 : 4 ≤ S := by omega
  have hrm : rm S = (S - 2) / 2 := rfl
  have hk4 : k < 4000 := by omega
  have hkk : (b % 4000).toNat = k := by omega
  refine r_seq ?_
  refine r_region ?_
  refine r_p (p_assign rfl) rfl ?_
  refine r_nil ?_
  refine r_seq ?_
  refine r_region ?_
  refine r_call (xs := []) sanity_spec cb15 [] [] [] [] rfl rfl rfl rfl rfl rfl rfl rfl (fun _ _ => rfl) (fun _ _ _ => rfl) rfl (fun _ _ => ?_)
  refine r_p (p_assign rfl) rfl ?_
  refine r_nil ?_
  refine r_seq ?_
  refine r_region ?_
  refine r_p (p_move rfl) rfl ?_
  refine r_p (p_bin rfl rfl (b_rem (by omega) (tmod_pos (by omega)))) rfl ?_
  refine r_p (p_conv Try.underlying5 Try.underlying3 rfl (by first | exact w_i64 (by omega) (by omega) | rfl)) rfl ?_
  refine r_p (p_bin rfl rfl (b_add (by first | exact w_i64 (by omega) (by omega) | rfl))) rfl ?_
  refine r_call (xs := [.tmp 18]) (newdisk_spec (4 + a % 100)) cb16 [] [] [60, 61, 62] [] rfl rfl rfl rfl rfl rfl rfl rfl (fun _ _ => rfl) (fun _ _ _ => rfl) rfl (fun d3 _ => ?_)
  obtain ⟨D, v, m⟩ := d3
  dsimp only
  refine r_conva (k := 62) (A' := own 9 1 eS (sv v) (List.replicate S zsec)) rfl (fun _ _ h => by rw [hS] at h; exact h) ?_
  obtain ⟨hg0, hh0⟩ := hold_new (S := S) hS4 (by omega)
  refine r_p (p_assign rfl) rfl ?_
  refine r_nil ?_
  refine r_seq ?_
  refine r_region ?_
  refine r_p (p_move rfl) rfl ?_
  refine r_call (xs := [.tmp 21]) (open_run D v m false 0 (List.replicate S zsec) hg0 hh0) cb30 [60, 61, 62] [] [63, 60, 61, 62] [52] rfl rfl rfl rfl rfl rfl rfl rfl (fun _ _ => rfl) (fun _ _ _ => rfl) rfl (fun j1 hj1 => ?_)
  obtain ⟨J, lst⟩ := j1
  dsimp only at hj1 ⊢
  have ml : lst.Sm := Sp.Sm.zero.congr hj1
  refine r_addG 64 (A := ownX 35 (acV D) nilS []) ownX_nil ?_
  refine r_p (p_move rfl) rfl ?_
  refine r_p (p_extract rfl rfl) rfl ?_
  refine r_p (p_extract rfl rfl) rfl ?_
  refine r_p (p_assign rfl) rfl ?_
  refine r_p (p_assign rfl) rfl ?_
  refine r_nil ?_
  refine r_seq ?_
  refine r_seq ?_
  refine r_region ?_
  refine r_p (p_move rfl) rfl ?_
  refine r_p (p_bin rfl rfl (b_eqPn Try.underlying49)) rfl ?_
  refine r_p (p_move rfl) rfl ?_
  refine r_split (t := 27) rfl (fun h1 => False.elim (by simp at h1)) (fun h1 => ?_)
  refine r_gyes rfl rfl ?_
  refine r_p (p_move rfl) rfl ?_
  refine r_gyes rfl rfl ?_
  refine r_p (p_bin rfl rfl b_ne) rfl ?_
  refine r_p (p_pick rfl rfl rfl (by first | exact pick_and | exact pick_or |  rfl)) rfl ?_
  refine r_nil ?_
  refine r_cond rfl (fun h2 => ?_) (fun h2 => ?_)
  · exact absurd h2 (by simp)
  · (try simp only [decide_eq_true_eq, decide_eq_false_iff_not, Bool.and_eq_true, Bool.or_eq_true, Bool.and_eq_false_iff, Bool.or_eq_false_iff, Bool.not_eq_true, Bool.not_eq_false, Bool.not_eq_true', Bool.not_eq_false', Bool.not_not, bne_iff_ne, beq_iff_eq] at h2)
    refine r_skip ?_
    refine r_seq ?_
    refine r_region ?_
    refine r_p (p_move rfl) rfl ?_
    refine r_p (p_bin rfl rfl (b_rem (by omega) (tmod_pos (by omega)))) rfl ?_
    refine r_p (p_conv Try.underlying47 Try.underlying3 rfl (by first | exact w_i64 (by omega) (by omega) | rfl)) rfl ?_
    refine r_call (xs := [.const (.int .u32 7), .tmp 33]) (fill_spec 7 (b % 4000) (by omega) (by omega)) cb18 [] [] [] [] rfl rfl rfl rfl rfl rfl rfl rfl (fun _ _ => rfl) (fun _ _ _ => rfl) rfl (fun _ _ => ?_)
    rw [hkk]
    refine r_bslice1 eS _ Try.underlying41 t9 rfl (by decide) (by decide) rfl rfl rfl rfl fun v35 => ?_
    refine r_freeze 35 35 rfl own_to_sl ?_
    refine r_nilsl 36 (α := Int) (s := 1) (enc := eI) ?_
    refine r_nilsl 37 (α := ByteArray) (s := 1) (enc := eS) ?_
    refine r_nilsl 38 (α := Int) (s := 1) (enc := eU) ?_
    refine r_mkSn 36 35 37 38 38 50 (x := (fullS k v35)) rfl rfl rfl rfl rfl ?_
    have oX := full_ok k hk4 v35
    have lX := full_len k v35
    have mX : (fullS k v35).Sm := Sp.Sm.of (by omega)
    have hosz : (ofI (eSn (fullS k v35).sn)).size = (eSn (fullS k v35).sn).length := ofI_size _
    refine r_p (p_build (cs := (snC (fullS k v35)).toArray) (parts := [(0, .const (.int .i64 1)), (3, .tmp 35)]) t59 pl59 rfl (by kernel_rfl)) rfl ?_
    refine r_alloc t59 rfl rfl fun b9 => ?_
    refine r_store_all (k := 9) t59 rfl rfl rfl rfl rfl rfl ?_
    refine r_nil ?_
    refine r_seq ?_
    refine r_region ?_
    refine r_p (p_loadA t59 rfl rfl rfl (g_all (k := 9) rfl)) rfl ?_
    refine r_call (xs := [.tmp 37]) (bytes_spec (fullS k v35) oX (by omega)) cb32 [] [(false, 50)] [] [] rfl rfl rfl rfl rfl rfl rfl rfl (fun _ _ => rfl) (fun _ _ _ => rfl) rfl (fun _ _ => ?_)
    refine r_p (p_len_str Try.underlying9 rfl) rfl ?_
    refine r_p (p_move rfl) rfl ?_
    refine r_call (xs := [.tmp 40]) (sectors_spec D v (some m) false false 0 (List.replicate S zsec)) cb29 [] [(true, 60), (true, 62)] [] [] rfl rfl rfl rfl rfl rfl rfl rfl (fun _ _ => rfl) (fun _ _ _ => rfl) rfl (fun _ _ => ?_)
    refine r_p (p_bin rfl rfl (b_sub (c := (S : Int) - 2) (by rw [List.length_replicate]; exact w_i64 (by omega) (by omega)))) rfl ?_
    refine r_p (p_bin rfl rfl (b_quo (c := ((rm S : Nat) : Int)) (by decide) (by rw [cast_room S hS4]; exact w_i64 (by omega) (by omega)))) rfl ?_
    refine r_p (p_bin rfl rfl (b_mul (by first | exact w_i64 (by omega) (by omega) | rfl))) rfl ?_
    refine r_p (p_bin rfl rfl b_le) rfl ?_
    refine r_p (p_assign rfl) rfl ?_
    refine r_nil ?_
    refine r_seq ?_
    refine r_region ?_
    refine r_p (p_move rfl) rfl ?_
    refine r_p (p_loadA t59 rfl rfl rfl (g_all (k := 9) rfl)) rfl ?_
    refine r_call (xs := [.tmp 46, .tmp 47]) (begin_ok J D lst 0 zSp nilS v m false false 0 (List.replicate S zsec) (by decide) (by rw [hg0.len]; exact hS4) (by rw [hg0.len]; omega) (fullS k v35) oX (by omega) (by rw [hg0.len]; show (eSn (fullS k v35).sn).length ≤ rm S * 64; omega)) cb42 [63, 64, 60, 62] [(false, 50)] [63, 64, 60, 62] [54, 55] rfl rfl rfl rfl rfl rfl rfl rfl (fun _ _ => rfl) (fun _ _ _ => rfl) rfl (fun t ht => ?_)
    obtain ⟨z, vt, todo⟩ := t
    obtain ⟨hz1, hz2⟩ := ht
    dsimp only at hz1 hz2 ⊢
    rw [hg0.len] at hz2
    have hF : Fits S (ofI (eSn (fullS k v35).sn)) (fullS k v35).sn := fits_of oX (by omega) (by omega)
    have hnbk : nbk (ofI (eSn (fullS k v35).sn)) ≤ 66 := by unfold nbk; omega
    have htl : 0 < todo.length := by
      have := congrArg List.length hz2
      rw [List.length_map, plan_eq, List.length_append] at this
      simp at this
      omega
    have mz : z.Sm := mX.congr hz1
    refine r_p (p_assign rfl) rfl ?_
    refine r_nil ?_
    refine r_seq ?_
    refine r_seq ?_
    refine r_region ?_
    refine r_p (p_move rfl) rfl ?_
    refine r_p (p_not rfl) rfl ?_
    refine r_nil ?_
    refine r_cond rfl (fun h3 => ?_) (fun h3 => ?_)
    · (simp at h3; omega)
    · (try simp only [decide_eq_true_eq, decide_eq_false_iff_not, Bool.and_eq_true, Bool.or_eq_true, Bool.and_eq_false_iff, Bool.or_eq_false_iff, Bool.not_eq_true, Bool.not_eq_false, Bool.not_eq_true', Bool.not_eq_false', Bool.not_not, bne_iff_ne, beq_iff_eq] at h3)
      refine r_skip ?_
      refine r_seq ?_
      refine r_region ?_
      refine r_p (p_move rfl) rfl ?_
      refine r_p (p_loadA t59 rfl rfl rfl (g_all (k := 9) rfl)) rfl ?_
      refine r_call (xs := [.tmp 66, .tmp 67]) (begin_busy J D lst 0 z vt todo htl (fullS k v35)) cb42 [] [(true, 63), (true, 64)] [] [] rfl rfl rfl rfl rfl rfl rfl rfl (fun _ _ => rfl) (fun _ _ _ => rfl) rfl (fun _ _ => ?_)
      refine r_p (p_assign rfl) rfl ?_
      refine r_nil ?_
      refine r_seq ?_
      refine r_seq ?_
      refine r_region ?_
      refine r_p (p_assign rfl) rfl ?_
      refine r_nil ?_
      refine r_block ?_
      refine r_loop (X := Fst) (fun x => (WOk 0 S zSp.sn (ofI (eSn (fullS k v35).sn)) x.w ∧ 0 < x.w.todo.length ∧ x.lst = lst ∧ x.n = 0) ∨ (x.w.todo = [] ∧ x.lst = z ∧ x.n = 1 ∧ x.w.i ≤ 100)) (fun x => [(5, .bool true), (6, .pointer (some ⟨D, 0, none⟩)), (7, .pointer (some ⟨J, 0, none⟩)), (9, .pointer (some ⟨b9, 0, none⟩)), (11, .int .i64 0), (12, .int .i64 41), (13, .int .i64 (x.w.i : Int))]) (fun x => [(9, row b9 59 (snC (fullS k v35))), (63, row J 100 (jC D x.lst x.n z x.w.vt)), (64, ownX 35 (acV D) x.w.vt x.w.todo), (60, row D 94 (dC v (some m) false false x.w.left)), (61, mp mkI Prod.fst vS (some m) x.w.fr), (62, own 9 1 eS (sv v) x.w.dur)]) (fun x => [(50, snA (fullS k v35)), (54, snA z), (55, actsA J x.w.todo)]) (fun x => x.w.todo.length) ⟨⟨0, todo, vt, 0, List.replicate S zsec, []⟩, lst, 0⟩ (.inl ⟨⟨hg0, hh0, by show Phase 0 S _ _ [] 0 (todo.map Ac.plain); rw [hz2]; exact phase_init⟩, htl, rfl, rfl⟩) rfl rfl rfl (fun x hx0 => ?_)
      obtain ⟨⟨i, todo, vw, lw, dw, fw⟩, fl, fn⟩ := x
      dsimp only at hx0 ⊢
      have hi200 : i < 200 := by
        rcases hx0 with ⟨hw, h1, _⟩ | ⟨_, _, _, h⟩
        · have := hw.ph.len
          dsimp only at this h1
          rw [List.length_map] at this
          omega
        · omega
      refine r_seq ?_
      refine r_seq ?_
      refine r_region ?_
      refine r_p (p_move rfl) rfl ?_
      refine r_p (p_bin rfl rfl b_lt) rfl ?_
      refine r_p (p_move rfl) rfl ?_
      refine r_split (t := 71) rfl (fun h4 => ?_) (fun h4 => False.elim (by have := of_decide_eq_false h4; omega))
      refine r_gyes rfl rfl ?_
      refine r_p (p_move rfl) rfl ?_
      refine r_gyes rfl rfl ?_
      refine r_call (xs := [.tmp 72]) (busy_spec J D fl fn z vw todo) cb36 [] [(true, 63), (true, 64)] [] [] rfl rfl rfl rfl rfl rfl rfl rfl (fun _ _ => rfl) (fun _ _ _ => rfl) rfl (fun _ _ => ?_)
      refine r_p (p_pick rfl rfl rfl (by first | exact pick_and | exact pick_or |  rfl)) rfl ?_
      refine r_nil ?_
      refine r_cond rfl (fun h5 => ?_) (fun h5 => ?_)
      · have htl2 : 0 < todo.length := by simpa using h5
        obtain ⟨hw, -, hfl, hfn⟩ := hx0.resolve_right (fun h => by have := h.1; rw [this] at htl2; simp at htl2)
        replace hfl := hfl.symm
        subst hfl
        subst hfn
        have hwl := hw.ph.len
        dsimp only at hwl
        rw [List.length_map] at hwl
        obtain ⟨a, rest, rfl⟩ : ∃ a rest, todo = a :: rest := by
          cases todo with
          | nil => simp at htl2
          | cons a rest => exact ⟨a, rest, rfl⟩
        refine r_skip ?_
        refine r_seq ?_
        refine r_block ?_
        refine r_region ?_
        refine r_p (p_move rfl) rfl ?_
        refine r_call (xs := [.tmp 77]) (step_run J D lst 0 z vw v m false false lw dw fw a rest (by decide) hw.geo hw.hold hF hw.ph) cb43 [63, 64, 60, 61, 62] [(false, 55)] [63, 64, 60, 61, 62] [] rfl rfl rfl rfl rfl rfl rfl rfl (fun _ _ => rfl) (fun _ _ _ => rfl) rfl (fun y hy => ?_)
        obtain ⟨so, d⟩ := y
        obtain ⟨hst, hso⟩ := hy
        dsimp only at hst hso ⊢
        have hde : d.e = 0 := hst.he.trans (if_neg (by simp [pwO]))
        have hdo : d.off = false := hst.ho
        have hgd := hst.good rfl
        rw [hde] at hso
        refine r_nil ?_
        refine r_region ?_
        refine r_p (p_move rfl) rfl ?_
        refine r_p (p_bin rfl rfl (b_add (by first | exact w_i64 (by omega) (by omega) | rfl))) rfl ?_
        refine r_p (p_assign rfl) rfl ?_
        refine r_nil ?_
        rcases Nat.lt_or_ge 0 rest.length with hr | hr
        · rw [stepO_more hr] at hso
          subst hso
          have hgm := hgd.2.resolve_right (fun h => by have := h.1; rw [List.map_eq_nil_iff] at this; rw [this] at hr; simp at hr)
          refine r_more 55 55 rfl (actsA_sub (l' := rest) fun c hc => List.mem_cons_of_mem _ hc) ?_
          refine r_here ⟨⟨i + 1, rest, loS vw 1 1, d.left, d.dur, d.fr⟩, lst, 0⟩ ⟨.inl ⟨⟨hgd.1, hgm.2.1, hgm.2.2⟩, hr, rfl, rfl⟩, by simp⟩ rfl (by rw [hdo]; rfl) rfl
        · have hr0 : rest = [] := List.eq_nil_of_length_eq_zero (by omega)
          subst hr0
          rw [stepO_last] at hso
          subst hso
          refine r_more 55 55 rfl (actsA_sub (l' := []) fun c hc => List.mem_cons_of_mem _ hc) ?_
          refine r_here ⟨⟨i + 1, [], loS vw 1 1, d.left, d.dur, d.fr⟩, z, 1⟩ ⟨.inr ⟨rfl, rfl, rfl, by dsimp only; omega⟩, by simp⟩ rfl (by rw [hdo]; rfl) rfl
      · have htl2 : ¬ 0 < todo.length := by simpa using h5
        obtain ⟨h1, hfl, hfn, _⟩ := hx0.resolve_left (fun h => htl2 h.2.1)
        subst h1
        replace hfl := hfl.symm
        subst hfl
        subst hfn
        refine r_exit ?_
        refine r_seq ?_
        refine r_region ?_
        refine r_p (p_move rfl) rfl ?_
        refine r_p (p_move rfl) rfl ?_
        refine r_split (t := 80) rfl (fun h6 => ?_) (fun h6 => False.elim (by simp at h6))
        refine r_gyes rfl rfl ?_
        refine r_p (p_move rfl) rfl ?_
        refine r_gyes rfl rfl ?_
        refine r_p (p_bin rfl rfl b_eq) rfl ?_
        refine r_p (p_pick rfl rfl rfl (by first | exact pick_and | exact pick_or |  rfl)) rfl ?_
        refine r_p (p_move rfl) rfl ?_
        refine r_split (t := 84) rfl (fun h7 => ?_) (fun h7 => False.elim (by simp at h7))
        refine r_gyes rfl rfl ?_
        refine r_p (p_move rfl) rfl ?_
        refine r_gyes rfl rfl ?_
        refine r_p (p_bin rfl rfl b_eq) rfl ?_
        refine r_p (p_pick rfl rfl rfl (by first | exact pick_and | exact pick_or |  rfl)) rfl ?_
        refine r_p (p_move rfl) rfl ?_
        refine r_split (t := 88) rfl (fun h8 => ?_) (fun h8 => False.elim (by simp at h8))
        refine r_gyes rfl rfl ?_
        refine r_p (p_move rfl) rfl ?_
        refine r_gyes rfl rfl ?_
        refine r_p (p_loadA t59 rfl rfl rfl (g_all (k := 9) rfl)) rfl ?_
        refine r_gyes rfl rfl ?_
        refine r_call (xs := [.tmp 89, .tmp 90, .const (.int .i64 1)]) (last_is true J D z 1 z vw (fullS k v35) 1 mz mX (last_same (by decide) hz1)) cb38 [] [(true, 63), (false, 54), (false, 50)] [] [] rfl rfl rfl rfl rfl rfl rfl rfl (fun _ _ => rfl) (fun _ _ _ => rfl) rfl (fun _ _ => ?_)
        refine r_p (p_pick rfl rfl rfl (by first | exact pick_and | exact pick_or |  rfl)) rfl ?_
        refine r_p (p_assign rfl) rfl ?_
        refine r_nil ?_
        refine r_cret ?_
        refine r_ret () trivial rfl (rs1 (rv_tmp rfl)) (by first | rfl | simp) [] [] rfl rfl rfl
set_option maxHeartbeats 2000000 in
set_option maxRecDepth 100000 in
theorem full_b (a : Int) (ha : 0 ≤ a ∧ a < 256) (b : Int) (hb : 0 ≤ b ∧ b < 65536) (S k : Nat) (hSa : (S : Int) = (4 + a % 100)) (hS : (max 0 (min (4 + a % 100) 65536)).toNat = S) (hkb : (k : Int) = b % 4000) (hf : ¬ 160 + k ≤ rm S * 64) :
    Spec Try.prog 13 [.int .u8 a, .int .u16 b] [] [] (X := Unit) (fun _ => True) (fun _ => .bool true) (fun _ => []) (fun _ => []) := by
  refine r_enter Try.func13 rfl Try.ntmps13 rfl fun w0 M H => ?_
  have hS4 : 4 ≤ S := by omega
  have hrm : rm S = (S - 2) / 2 := rfl
  have hk4 : k < 4000 := by omega
  have hkk : (b % 4000).toNat = k := by omega
  refine r_seq ?_
  refine r_region ?_
  refine r_p (p_assign rfl) rfl ?_
  refine r_nil ?_
  refine r_seq ?_
  refine r_region ?_
  refine r_call (xs := []) sanity_spec cb15 [] [] [] [] rfl rfl rfl rfl rfl rfl rfl rfl (fun _ _ => rfl) (fun _ _ _ => rfl) rfl (fun _ _ => ?_)
  refine r_p (p_assign rfl) rfl ?_
  refine r_nil ?_
  refine r_seq ?_
  refine r_region ?_
  refine r_p (p_move rfl) rfl ?_
  refine r_p (p_bin rfl rfl (b_rem (by omega) (tmod_pos (by omega)))) rfl ?_
  refine r_p (p_conv Try.underlying5 Try.underlying3 rfl (by first | exact w_i64 (by omega) (by omega) | rfl)) rfl ?_
  refine r_p (p_bin rfl rfl (b_add (by first | exact w_i64 (by omega) (by omega) | rfl))) rfl ?_
  refine r_call (xs := [.tmp 18]) (newdisk_spec (4 + a % 100)) cb16 [] [] [60, 61, 62] [] rfl rfl rfl rfl rfl rfl rfl rfl (fun _ _ => rfl) (fun _ _ _ => rfl) rfl (fun d3 _ => ?_)
  obtain ⟨D, v, m⟩ := d3
  dsimp only
  refine r_conva (k := 62) (A' := own 9 1 eS (sv v) (List.replicate S zsec)) rfl (fun _ _ h => by rw [hS] at h; exact h) ?_
  obtain ⟨hg0, hh0⟩ := hold_new (S := S) hS4 (by omega)
  refine r_p (p_assign rfl) rfl ?_
  refine r_nil ?_
  refine r_seq ?_
  refine r_region ?_
  refine r_p (p_move rfl) rfl ?_
  refine r_call (xs := [.tmp 21]) (open_run D v m false 0 (List.replicate S zsec) hg0 hh0) cb30 [60, 61, 62] [] [63, 60, 61, 62] [52] rfl rfl rfl rfl rfl rfl rfl rfl (fun _ _ => rfl) (fun _ _ _ => rfl) rfl (fun j1 hj1 => ?_)
  obtain ⟨J, lst⟩ := j1
  dsimp only at hj1 ⊢
  have ml : lst.Sm := Sp.Sm.zero.congr hj1
  refine r_addG 64 (A := ownX 35 (acV D) nilS []) ownX_nil ?_
  refine r_p (p_move rfl) rfl ?_
  refine r_p (p_extract rfl rfl) rfl ?_
  refine r_p (p_extract rfl rfl) rfl ?_
  refine r_p (p_assign rfl) rfl ?_
  refine r_p (p_assign rfl) rfl ?_
  refine r_nil ?_
  refine r_seq ?_
  refine r_seq ?_
  refine r_region ?_
  refine r_p (p_move rfl) rfl ?_
  refine r_p (p_bin rfl rfl (b_eqPn Try.underlying49)) rfl ?_
  refine r_p (p_move rfl) rfl ?_
  refine r_split (t := 27) rfl (fun h1 => False.elim (by simp at h1)) (fun h1 => ?_)
  refine r_gyes rfl rfl ?_
  refine r_p (p_move rfl) rfl ?_
  refine r_gyes rfl rfl ?_
  refine r_p (p_bin rfl rfl b_ne) rfl ?_
  refine r_p (p_pick rfl rfl rfl (by first | exact pick_and | exact pick_or |  rfl)) rfl ?_
  refine r_nil ?_
  refine r_cond rfl (fun h2 => ?_) (fun h2 => ?_)
  · exact absurd h2 (by simp)
  · (try simp only [decide_eq_true_eq, decide_eq_false_iff_not, Bool.and_eq_true, Bool.or_eq_true, Bool.and_eq_false_iff, Bool.or_eq_false_iff, Bool.not_eq_true, Bool.not_eq_false, Bool.not_eq_true', Bool.not_eq_false', Bool.not_not, bne_iff_ne, beq_iff_eq] at h2)
    refine r_skip ?_
    refine r_seq ?_
    refine r_region ?_
    refine r_p (p_move rfl) rfl ?_
    refine r_p (p_bin rfl rfl (b_rem (by omega) (tmod_pos (by omega)))) rfl ?_
    refine r_p (p_conv Try.underlying47 Try.underlying3 rfl (by first | exact w_i64 (by omega) (by omega) | rfl)) rfl ?_
    refine r_call (xs := [.const (.int .u32 7), .tmp 33]) (fill_spec 7 (b % 4000) (by omega) (by omega)) cb18 [] [] [] [] rfl rfl rfl rfl rfl rfl rfl rfl (fun _ _ => rfl) (fun _ _ _ => rfl) rfl (fun _ _ => ?_)
    rw [hkk]
    refine r_bslice1 eS _ Try.underlying41 t9 rfl (by decide) (by decide) rfl rfl rfl rfl fun v35 => ?_
    refine r_freeze 35 35 rfl own_to_sl ?_
    refine r_nilsl 36 (α := Int) (s := 1) (enc := eI) ?_
    refine r_nilsl 37 (α := ByteArray) (s := 1) (enc := eS) ?_
    refine r_nilsl 38 (α := Int) (s := 1) (enc := eU) ?_
    refine r_mkSn 36 35 37 38 38 50 (x := (fullS k v35)) rfl rfl rfl rfl rfl ?_
    have oX := full_ok k hk4 v35
    have lX := full_len k v35
    have mX : (fullS k v35).Sm := Sp.Sm.of (by omega)
    have hosz : (ofI (eSn (fullS k v35).sn)).size = (eSn (fullS k v35).sn).length := ofI_size _
    refine r_p (p_build (cs := (snC (fullS k v35)).toArray) (parts := [(0, .const (.int .i64 1)), (3, .tmp 35)]) t59 pl59 rfl (by kernel_rfl)) rfl ?_
    refine r_alloc t59 rfl rfl fun b9 => ?_
    refine r_store_all (k := 9) t59 rfl rfl rfl rfl rfl rfl ?_
    refine r_nil ?_
    refine r_seq ?_
    refine r_region ?_
    refine r_p (p_loadA t59 rfl rfl rfl (g_all (k := 9) rfl)) rfl ?_
    refine r_call (xs := [.tmp 37]) (bytes_spec (fullS k v35) oX (by omega)) cb32 [] [(false, 50)] [] [] rfl rfl rfl rfl rfl rfl rfl rfl (fun _ _ => rfl) (fun _ _ _ => rfl) rfl (fun _ _ => ?_)
    refine r_p (p_len_str Try.underlying9 rfl) rfl ?_
    refine r_p (p_move rfl) rfl ?_
    refine r_call (xs := [.tmp 40]) (sectors_spec D v (some m) false false 0 (List.replicate S zsec)) cb29 [] [(true, 60), (true, 62)] [] [] rfl rfl rfl rfl rfl rfl rfl rfl (fun _ _ => rfl) (fun _ _ _ => rfl) rfl (fun _ _ => ?_)
    refine r_p (p_bin rfl rfl (b_sub (c := (S : Int) - 2) (by rw [List.length_replicate]; exact w_i64 (by omega) (by omega)))) rfl ?_
    refine r_p (p_bin rfl rfl (b_quo (c := ((rm S : Nat) : Int)) (by decide) (by rw [cast_room S hS4]; exact w_i64 (by omega) (by omega)))) rfl ?_
    refine r_p (p_bin rfl rfl (b_mul (by first | exact w_i64 (by omega) (by omega) | rfl))) rfl ?_
    refine r_p (p_bin rfl rfl b_le) rfl ?_
    refine r_p (p_assign rfl) rfl ?_
    refine r_nil ?_
    refine r_seq ?_
    refine r_region ?_
    refine r_p (p_move rfl) rfl ?_
    refine r_p (p_loadA t59 rfl rfl rfl (g_all (k := 9) rfl)) rfl ?_
    refine r_call (xs := [.tmp 46, .tmp 47]) (begin_full J D lst 0 zSp nilS v m false false 0 (List.replicate S zsec) (by decide) (by rw [hg0.len]; exact hS4) (by rw [hg0.len]; omega) (fullS k v35) oX (by omega) (by rw [hg0.len]; show (eSn (fullS k v35).sn).length > rm S * 64; omega)) cb42 [63, 64] [(true, 60), (true, 62), (false, 50)] [63, 64] [] rfl rfl rfl rfl rfl rfl rfl rfl (fun _ _ => rfl) (fun _ _ _ => rfl) rfl (fun _ _ => ?_)
    refine r_p (p_assign rfl) rfl ?_
    refine r_nil ?_
    refine r_seq ?_
    refine r_seq ?_
    refine r_region ?_
    refine r_p (p_move rfl) rfl ?_
    refine r_p (p_not rfl) rfl ?_
    refine r_nil ?_
    refine r_cond rfl (fun h3 => ?_) (fun h3 => ?_)
    · (try simp only [decide_eq_true_eq, decide_eq_false_iff_not, Bool.and_eq_true, Bool.or_eq_true, Bool.and_eq_false_iff, Bool.or_eq_false_iff, Bool.not_eq_true, Bool.not_eq_false, Bool.not_eq_true', Bool.not_eq_false', Bool.not_not, bne_iff_ne, beq_iff_eq] at h3)
      refine r_seq ?_
      refine r_region ?_
      refine r_p (p_move rfl) rfl ?_
      refine r_p (p_move rfl) rfl ?_
      refine r_split (t := 52) rfl (fun h4 => ?_) (fun h4 => False.elim (by simp at h4))
      refine r_gyes rfl rfl ?_
      refine r_p (p_move rfl) rfl ?_
      refine r_gyes rfl rfl ?_
      refine r_p (p_bin rfl rfl b_eq) rfl ?_
      refine r_p (p_pick rfl rfl rfl (by first | exact pick_and | exact pick_or |  rfl)) rfl ?_
      refine r_p (p_move rfl) rfl ?_
      refine r_split (t := 56) rfl (fun h5 => ?_) (fun h5 => False.elim (by simp at h5))
      refine r_gyes rfl rfl ?_
      refine r_p (p_move rfl) rfl ?_
      refine r_gyes rfl rfl ?_
      refine r_call (xs := [.tmp 57]) (busy_spec J D lst 0 zSp nilS []) cb36 [] [(true, 63), (true, 64)] [] [] rfl rfl rfl rfl rfl rfl rfl rfl (fun _ _ => rfl) (fun _ _ _ => rfl) rfl (fun _ _ => ?_)
      refine r_gyes rfl rfl ?_
      refine r_p (p_not rfl) rfl ?_
      refine r_p (p_pick rfl rfl rfl (by first | exact pick_and | exact pick_or |  rfl)) rfl ?_
      refine r_p (p_move rfl) rfl ?_
      refine r_split (t := 61) rfl (fun h6 => ?_) (fun h6 => False.elim (by simp at h6))
      refine r_gyes rfl rfl ?_
      refine r_p (p_move rfl) rfl ?_
      refine r_gyes rfl rfl ?_
      refine r_p (p_loadA t59 rfl rfl rfl (g_all (k := 9) rfl)) rfl ?_
      refine r_gyes rfl rfl ?_
      refine r_call (xs := [.tmp 62, .tmp 63, .const (.int .i64 0)]) (last_is true J D lst 0 zSp nilS (fullS k v35) 0 ml mX (last_zero _ _)) cb38 [] [(true, 63), (false, 52), (false, 50)] [] [] rfl rfl rfl rfl rfl rfl rfl rfl (fun _ _ => rfl) (fun _ _ _ => rfl) rfl (fun _ _ => ?_)
      refine r_p (p_pick rfl rfl rfl (by first | exact pick_and | exact pick_or |  rfl)) rfl ?_
      refine r_p (p_assign rfl) rfl ?_
      refine r_nil ?_
      refine r_cret ?_
      refine r_ret () trivial rfl (rs1 (rv_tmp rfl)) (by first | rfl | simp) [] [] rfl rfl rfl
    · (simp at h3; omega)
set_option maxRecDepth 100000 in
theorem full_law (a : Int) (ha : 0 ≤ a ∧ a < 256) (b : Int) (hb : 0 ≤ b ∧ b < 65536) :
    Spec Try.prog 13 [.int .u8 a, .int .u16 b] [] [] (X := Unit) (fun _ => True) (fun _ => .bool true) (fun _ => []) (fun _ => []) := by
  by_cases hf : 160 + (b % 4000).toNat ≤ rm (4 + a % 100).toNat * 64
  · exact full_a a ha b hb (4 + a % 100).toNat (b % 4000).toNat (by omega) (by omega) (by omega) hf
  · exact full_b a ha b hb (4 + a % 100).toNat (b % 4000).toNat (by omega) (by omega) (by omega) hf


end Go.Proofs.Ytohenjmkhncoiaa
