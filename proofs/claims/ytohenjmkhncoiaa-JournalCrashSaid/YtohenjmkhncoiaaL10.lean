/-
  The walk of JournalCrash. Condition: the numbers are of their types.
-/
import Derived.Test.YtohenjmkhncoiaaP5
import Derived.Test.YtohenjmkhncoiaaOG
namespace Go.Proofs.Ytohenjmkhncoiaa
set_option linter.unusedSimpArgs false
set_option linter.unusedVariables false
open Go.RowKit

def Sp.pcAt (x : Sp) (k : Int) : Sp := ⟨x.kind, k, x.f, x.steps, x.due, x.R, x.C, x.rights, x.data, x.code, x.inputs, x.outputs, x.vr, x.vd, x.vc, x.vi, x.vo⟩
theorem pc_ok {x : Sp} (h : x.sn.Ok) {k : Int} (hk : okW k) : (x.pcAt k).sn.Ok := ⟨h.kind, h.steps, h.due, hk, h.f, h.R, h.C, h.rights, h.data, h.code, h.inputs, h.outputs⟩
theorem pc_len (x : Sp) (k : Int) : (eSn (x.pcAt k).sn).length = (eSn x.sn).length := (eSn_len (x.pcAt k)).trans (eSn_len x).symm
def sp5 : Sp := ⟨5, 0, 0, 0, 0, fun _ => 0, fun _ => 0, [], [], [], [], [], nilS, nilS, nilS, nilS, nilS⟩
theorem sp5_ok : sp5.sn.Ok := by
  have hz : okI 0 := ⟨by decide, by decide⟩
  have hw : okW 0 := ⟨by decide, by decide⟩
  have h0 : (((0 : Nat) : Int)) < 9223372036854775808 := by decide
  refine ⟨⟨by show (-9223372036854775808 : Int) ≤ 5; decide, by show (5 : Int) < 9223372036854775808; decide⟩, hz, hz, hw, hw, ⟨fun a ha => ?_, by simp [sp5, Sp.sn]⟩, ⟨fun a ha => ?_, by simp [sp5, Sp.sn]⟩, ⟨fun a ha => ?_, h0⟩, ⟨fun a ha => ?_, h0⟩, ⟨fun a ha => ?_, h0⟩, ⟨fun a ha => ?_, h0⟩, ⟨fun a ha => ?_, h0⟩⟩
  · obtain ⟨i, _, rfl⟩ := List.mem_map.1 ha
    exact hw
  · obtain ⟨i, _, rfl⟩ := List.mem_map.1 ha
    exact hw
  all_goals simp [sp5, Sp.sn] at ha
theorem sp5_len : (eSn sp5.sn).length ≤ 1000 := by
  rw [eSn_len]
  simp [sp5]

set_option maxHeartbeats 4000000 in
set_option maxRecDepth 100000 in
theorem jcrash_law (a : Int) (ha : 0 ≤ a ∧ a < 256) (xv : SV) (evs : List Evt) (hev : ∀ x ∈ evs, (0 ≤ x.what ∧ x.what < 256) ∧ (0 ≤ x.n ∧ x.n < 256) ∧ ∀ n ∈ x.q.l, okI n) (vq : SV) (q : List Int) (hq : ∀ x ∈ q, okI x) :
    Spec Try.prog 10 [.int .u8 a, sv xv, sv vq] [] [sl 3 eEvt (sv xv) evs, qlsA (evs.map Evt.q), sl 1 eI (sv vq) q] (X := Unit) (fun _ => True) (fun _ => .bool true) (fun _ => []) (fun _ => []) := by
  refine r_enter Try.func10 rfl Try.ntmps10 rfl fun w0 M H => ?_
  refine r_more 2 72 rfl sl_slq ?_
  obtain ⟨S, hSa⟩ : ∃ S : Nat, 4 + a % 60 = (S : Int) := ⟨(4 + a % 60).toNat, by omega⟩
  have hS4 : 4 ≤ S := by omega
  have hSh : S ≤ 63 := by omega
  have hS : (max 0 (min (4 + a % 60) 65536)).toNat = S := by omega
  refine r_seq ?_
  refine r_region ?_
  refine r_p (p_assign rfl) rfl ?_
  refine r_nil ?_
  refine r_seq ?_
  refine r_region ?_
  refine r_call (xs := []) sanity_spec cb15 [] [] [] [] rfl rfl rfl rfl rfl rfl rfl rfl (fun _ _ => rfl) (fun _ _ _ => rfl) rfl (fun _ _ => ?_)
  refine r_p (p_assign rfl) rfl ?_
  refine r_nil ?_
  refine r_seq ?_
  refine r_region ?_
  refine r_p (p_move rfl) rfl ?_
  refine r_p (p_bin rfl rfl (b_rem (by omega) (by first | exact tmod_pos (by omega) | rfl))) rfl ?_
  refine r_p (p_conv Try.underlying5 Try.underlying3 rfl (by first | exact w_i64 (by omega) (by omega) | rfl)) rfl ?_
  refine r_p (p_bin rfl rfl (b_add (by first | exact w_i64 (by omega) (by omega) | rfl))) rfl ?_
  refine r_call (xs := [.tmp 18]) (newdisk_spec (4 + a % 60)) cb16 [] [] [160, 161, 162] [] rfl rfl rfl rfl rfl rfl rfl rfl (fun _ _ => rfl) (fun _ _ _ => rfl) rfl (fun d3 _ => ?_)
  obtain ⟨D, v, m⟩ := d3
  dsimp only
  refine r_conva (k := 162) (A' := own 9 1 eS (sv v) (List.replicate S zsec)) rfl (fun _ _ h => by rw [hS] at h; exact h) ?_
  obtain ⟨hg0, hh0⟩ := hold_new (S := S) hS4 (by omega)
  refine r_p (p_build (cs := ((.pointer (some ⟨D, 0, none⟩) :: .pointer none :: (snC zSp ++ (snC zSp ++ [.int .i64 0, .bool false, .bool false, .bool false])) : List Value)).toArray) (parts := [(0, .tmp 19)]) t77 pl77 rfl (by kernel_rfl)) rfl ?_
  refine r_boxA rfl rfl fun b21 => ?_
  refine r_p (p_assign rfl) rfl ?_
  refine r_nil ?_
  refine r_seq ?_
  refine r_region ?_
  refine r_p (p_move rfl) rfl ?_
  refine r_p (p_nilCheck rfl) rfl ?_
  refine r_p (p_field0 fo77_0 rfl) rfl ?_
  refine r_p (p_load1 t24 rfl rfl (g_row1 (k := 21) rfl rfl)) rfl ?_
  refine r_call (xs := [.tmp 26]) (open_run D v m false 0 (List.replicate S zsec) hg0 hh0) cb30 [160, 161, 162] [] [163, 160, 161, 162] [32] rfl rfl rfl rfl rfl rfl rfl rfl (fun _ _ => rfl) (fun _ _ _ => rfl) rfl (fun jx hjx => ?_)
  obtain ⟨J, ls⟩ := jx
  dsimp only at hjx ⊢
  have hls : ls.sn = zSp.sn := hjx
  refine r_addG 164 (A := ownX 35 (acV D) nilS []) ownX_nil ?_
  refine r_p (p_move rfl) rfl ?_
  refine r_p (p_extract rfl rfl) rfl ?_
  refine r_p (p_extract rfl rfl) rfl ?_
  refine r_p (p_assign rfl) rfl ?_
  refine r_p (p_assign rfl) rfl ?_
  refine r_nil ?_
  refine r_seq ?_
  refine r_seq ?_
  refine r_region ?_
  refine r_p (p_move rfl) rfl ?_
  refine r_p (p_bin rfl rfl (b_eqPn Try.underlying49)) rfl ?_
  refine r_p (p_move rfl) rfl ?_
  refine r_split (t := 32) rfl (fun h1 => False.elim (by simp at h1)) (fun h1 => ?_)
  refine r_gyes rfl rfl ?_
  refine r_p (p_move rfl) rfl ?_
  refine r_gyes rfl rfl ?_
  refine r_p (p_bin rfl rfl b_ne) rfl ?_
  refine r_p (p_pick rfl rfl rfl (by first | exact pick_and | exact pick_or |  rfl)) rfl ?_
  refine r_nil ?_
  refine r_cond rfl (fun h2 => ?_) (fun h2 => ?_)
  · exact absurd h2 (by simp)
  · (try simp only [decide_eq_true_eq, decide_eq_false_iff_not, Bool.and_eq_true, Bool.or_eq_true, Bool.and_eq_false_iff, Bool.or_eq_false_iff, Bool.not_eq_true, Bool.not_eq_false, Bool.not_eq_true', Bool.not_eq_false', Bool.not_not, bne_iff_ne, beq_iff_eq] at h2)
    refine r_skip ?_
    refine r_seq ?_
    refine r_region ?_
    refine r_p (p_move rfl) rfl ?_
    refine r_p (p_move rfl) rfl ?_
    refine r_p (p_nilCheck rfl) rfl ?_
    refine r_p (p_field0 fo77_1 rfl) rfl ?_
    refine r_store_row (k := 21) t49 rfl rfl rfl rfl rfl rfl rfl rfl ?_
    refine r_nil ?_
    refine r_seq ?_
    refine r_seq ?_
    refine r_region ?_
    refine r_p (p_assign rfl) rfl ?_
    refine r_nil ?_
    refine r_block ?_
    refine r_conva (k := 21) (A' := row b21 77 (hC D J zSp zSp 0 false false false)) rfl (fun _ _ h => h) ?_
    refine r_addR 30 (A := snA zSp) (fun _ => snA_zero) ?_
    refine r_addR 31 (A := snA zSp) (fun _ => snA_zero) ?_
    refine r_addR 33 (A := snA zSp) (fun _ => snA_zero) ?_
    refine r_addR 34 (A := actsA J []) actsA_nil ?_
    refine r_loop (X := Nat × Hs) (fun y => y.1 ≤ 40 ∧ HI S y.1 y.2) (fun y => [(0, .int .u8 a), (1, sv xv), (2, sv vq), (7, .bool true), (8, .pointer (some ⟨b21, 0, none⟩)), (11, .int .i64 (y.1 : Int))]) (fun y => [(21, row b21 77 (hC D y.2.J y.2.s y.2.nx y.2.n y.2.busy y.2.stepped y.2.off)), (163, row y.2.J 100 (jC D y.2.jl y.2.n y.2.jx y.2.vt)), (164, ownX 35 (acV D) y.2.vt y.2.todo), (160, row D 94 (dC v (some m) y.2.off y.2.armed y.2.left)), (161, mp mkI Prod.fst vS (some m) y.2.fr), (162, own 9 1 eS (sv v) y.2.dur)]) (fun y => [(0, sl 3 eEvt (sv xv) evs), (1, qlsA (evs.map Evt.q)), (72, slq vq q), (30, snA y.2.s), (31, snA y.2.nx), (32, snA y.2.jl), (33, snA y.2.jx), (34, actsA y.2.J y.2.todo)]) (fun y => 40 - y.1) (0, (⟨J, zSp, zSp, 0, false, false, false, ls, zSp, 0, [], nilS, false, 0, List.replicate S zsec, []⟩ : Hs)) ⟨Nat.zero_le _, ⟨hg0, hh0, ⟨Int.le_refl _, Int.le_refl _⟩, hls, Sp.Sm.zero, fun _ => ⟨rfl, rfl, rfl⟩, fun h => by simp at h⟩⟩ rfl rfl rfl (fun y hy0 => ?_)
    obtain ⟨k, z⟩ := y
    obtain ⟨hk0, hz⟩ := hy0
    dsimp only at hk0 hz ⊢
    have hz1 := hz.mono (Nat.le_succ k)
    refine r_seq ?_
    refine r_seq ?_
    refine r_region ?_
    refine r_p (p_move rfl) rfl ?_
    refine r_p (p_move rfl) rfl ?_
    refine r_p (p_len_sl Try.underlying74 rfl (hs_sl (k := 0) rfl)) rfl ?_
    refine r_p (p_bin rfl rfl b_lt) rfl ?_
    refine r_p (p_move rfl) rfl ?_
    refine r_gp [] rfl rfl trivial (fun hg3 => p_move rfl) rfl ?_
    refine r_gp [(45, _)] rfl rfl ⟨rfl, trivial⟩ (fun hg4 => p_bin rfl rfl b_lt) rfl ?_
    refine r_p (p_pick rfl rfl rfl (by first | exact pick_and | exact pick_or |  rfl)) rfl ?_
    refine r_nil ?_
    refine r_cond rfl (fun h5 => ?_) (fun h5 => ?_)
    · (try simp only [decide_eq_true_eq, decide_eq_false_iff_not, Bool.and_eq_true, Bool.or_eq_true, Bool.and_eq_false_iff, Bool.or_eq_false_iff, Bool.not_eq_true, Bool.not_eq_false, Bool.not_eq_true', Bool.not_eq_false', Bool.not_not, bne_iff_ne, beq_iff_eq] at h5)
      have hk : k < evs.length ∧ k < 40 := by omega
      obtain ⟨e, he⟩ : ∃ e, evs[k]? = some e := ⟨_, List.getElem?_eq_getElem hk.1⟩
      obtain ⟨hb1, hb2, hb3⟩ := hev e (List.mem_of_getElem? he)
      refine r_skip ?_
      refine r_seq ?_
      refine r_block ?_
      refine r_seq ?_
      refine r_region ?_
      refine r_p (p_assign rfl) rfl ?_
      refine r_nil ?_
      refine r_seq ?_
      refine r_seq ?_
      refine r_region ?_
      refine r_p (p_move rfl) rfl ?_
      refine r_p (p_move rfl) rfl ?_
      refine r_p (p_idx_sl (j := k) Try.underlying74 t79 rfl rfl (hs_sl (k := 0) rfl) (by first | rfl | omega) (by first | omega | (simp; done) | (simp; omega))) rfl ?_
      refine r_p (p_field fo79_0 rfl) rfl ?_
      refine r_p (p_load1 t5 rfl rfl (g_elp (hs_sl (k := 0) rfl) (by intro _; rfl) he rfl)) rfl ?_
      refine r_p (p_bin rfl rfl (b_rem (by omega) (by first | exact tmod_pos (by omega) | rfl))) rfl ?_
      refine r_nil ?_
      refine r_block ?_
      refine r_seq ?_
      refine r_region ?_
      refine r_p (p_bin rfl rfl b_eq) rfl ?_
      refine r_p (p_assign rfl) rfl ?_
      refine r_nil ?_
      refine r_cond rfl (fun h6 => ?_) (fun h6 => ?_)
      · refine r_seq ?_
        refine r_region ?_
        refine r_p (p_move rfl) rfl ?_
        refine r_call (xs := [.tmp 65]) (made_q vq q) cb31 [] [(false, 72)] [] [50] rfl rfl rfl rfl rfl rfl rfl rfl (fun _ _ => rfl) (fun _ _ _ => rfl) rfl (fun xa hxa => ?_)
        obtain ⟨xaa0, xaa1, xaa2, xaa3, xaa4, hxa⟩ := hxa
        have exa : xa.sn = madeF q := by rw [hxa]; exact madeS_sn _ _ _ _ _ _
        have oxa : xa.sn.Ok := by rw [exa]; exact made_ok _ (okI_xq hq)
        have lxa : (eSn xa.sn).length ≤ 1000 := by rw [exa]; exact made_len _
        have mxa : xa.Sm := Sp.Sm.of (by omega)
        clear hxa exa
        have oxk : (xa.pcAt (k : Int)).sn.Ok := pc_ok oxa ⟨by omega, by omega⟩
        have lxk : (eSn (xa.pcAt (k : Int)).sn).length ≤ 1000 := by rw [pc_len]; exact lxa
        refine r_alloc t59 rfl rfl fun b13 => ?_
        refine r_store_all (k := 13) t59 rfl rfl rfl rfl rfl rfl ?_
        refine r_nil ?_
        refine r_seq ?_
        refine r_region ?_
        refine r_p (p_move rfl) rfl ?_
        refine r_p (p_conv Try.underlying3 Try.underlying32 rfl (by first | exact w_u32 (by omega) (by omega) | rfl)) rfl ?_
        refine r_p (p_field0 fo59_1 rfl) rfl ?_
        refine r_p (p_field fo56_0 rfl) rfl ?_
        refine r_store_row (k := 13) t32 rfl rfl rfl rfl rfl rfl rfl rfl ?_
        refine r_nil ?_
        refine r_region ?_
        refine r_p (p_move rfl) rfl ?_
        refine r_p (p_loadA t59 rfl rfl rfl (g_all (k := 13) rfl)) rfl ?_
        refine r_call (xs := [.tmp 71, .tmp 72]) (hbegin_spec b21 D v m S k z hz (by omega) (xa.pcAt (k : Int)) oxk (by omega)) cb39 [21, 163, 164, 160, 161, 162] [(false, 30), (false, 31), (false, 32), (false, 33), (false, 34), (false, 50)] [21, 163, 164, 160, 161, 162] [30, 31, 32, 33, 34] rfl rfl rfl rfl rfl rfl rfl rfl (fun _ _ => rfl) (fun _ _ _ => rfl) rfl (fun y hy => ?_)
        refine r_p (p_assign rfl) rfl ?_
        refine r_nil ?_
        refine r_seq ?_
        refine r_region ?_
        refine r_p (p_move rfl) rfl ?_
        refine r_p (p_not rfl) rfl ?_
        refine r_nil ?_
        refine r_cond rfl (fun h7 => ?_) (fun h7 => ?_)
        · exact absurd h7 (by simp)
        · (try simp only [decide_eq_true_eq, decide_eq_false_iff_not, Bool.and_eq_true, Bool.or_eq_true, Bool.and_eq_false_iff, Bool.or_eq_false_iff, Bool.not_eq_true, Bool.not_eq_false, Bool.not_eq_true', Bool.not_eq_false', Bool.not_not, bne_iff_ne, beq_iff_eq] at h7)
          refine r_skip ?_
          refine r_region ?_
          refine r_p (p_move rfl) rfl ?_
          refine r_p (p_bin rfl rfl (b_add (by first | exact w_i64 (by omega) (by omega) | rfl))) rfl ?_
          refine r_p (p_assign rfl) rfl ?_
          refine r_nil ?_
          refine r_here (k + 1, y) ⟨⟨by dsimp only; omega, hy.mono (Nat.le_succ k)⟩, by dsimp only; omega⟩ rfl rfl rfl
      · refine r_seq ?_
        refine r_seq ?_
        refine r_region ?_
        refine r_p (p_bin rfl rfl b_eq) rfl ?_
        refine r_p (p_assign rfl) rfl ?_
        refine r_nil ?_
        refine r_cond rfl (fun h8 => ?_) (fun h8 => ?_)
        · have hc4 := h8
          refine r_skip ?_
          refine r_cond rfl (fun h9 => ?_) (fun h9 => ?_)
          · (try simp only [decide_eq_true_eq, decide_eq_false_iff_not, Bool.and_eq_true, Bool.or_eq_true, Bool.and_eq_false_iff, Bool.or_eq_false_iff, Bool.not_eq_true, Bool.not_eq_false, Bool.not_eq_true', Bool.not_eq_false', Bool.not_not, bne_iff_ne, beq_iff_eq] at h9)
            refine r_region ?_
            refine r_p (p_move rfl) rfl ?_
            refine r_p (p_move rfl) rfl ?_
            refine r_p (p_move rfl) rfl ?_
            refine r_p (p_idx_sl (j := k) Try.underlying74 t79 rfl rfl (hs_sl (k := 0) rfl) (by first | rfl | omega) (by first | omega | (simp; done) | (simp; omega))) rfl ?_
            refine r_p (p_field fo79_1 rfl) rfl ?_
            refine r_p (p_load1 t5 rfl rfl (g_elp (hs_sl (k := 0) rfl) (by intro _; rfl) he rfl)) rfl ?_
            refine r_p (p_bin rfl rfl (b_rem (by omega) (by first | exact tmod_pos (by omega) | rfl))) rfl ?_
            refine r_p (p_conv Try.underlying5 Try.underlying3 rfl (by first | exact w_i64 (by omega) (by omega) | rfl)) rfl ?_
            refine r_call (xs := [.tmp 77, .tmp 84]) (hsteps_spec b21 D v m S k z hz (by omega) (e.n % 40) (by omega)) cb40 [21, 163, 164, 160, 161, 162] [(false, 30), (false, 31), (false, 32), (false, 33), (false, 34)] [21, 163, 164, 160, 161, 162] [30, 31, 32, 33, 34] rfl rfl rfl rfl rfl rfl rfl rfl (fun _ _ => rfl) (fun _ _ _ => rfl) rfl (fun y hy => ?_)
            refine r_p (p_assign rfl) rfl ?_
            refine r_nil ?_
            refine r_seq ?_
            refine r_region ?_
            refine r_p (p_move rfl) rfl ?_
            refine r_p (p_not rfl) rfl ?_
            refine r_nil ?_
            refine r_cond rfl (fun h10 => ?_) (fun h10 => ?_)
            · exact absurd h10 (by simp)
            · (try simp only [decide_eq_true_eq, decide_eq_false_iff_not, Bool.and_eq_true, Bool.or_eq_true, Bool.and_eq_false_iff, Bool.or_eq_false_iff, Bool.not_eq_true, Bool.not_eq_false, Bool.not_eq_true', Bool.not_eq_false', Bool.not_not, bne_iff_ne, beq_iff_eq] at h10)
              refine r_skip ?_
              refine r_region ?_
              refine r_p (p_move rfl) rfl ?_
              refine r_p (p_bin rfl rfl (b_add (by first | exact w_i64 (by omega) (by omega) | rfl))) rfl ?_
              refine r_p (p_assign rfl) rfl ?_
              refine r_nil ?_
              refine r_here (k + 1, y) ⟨⟨by dsimp only; omega, hy⟩, by dsimp only; omega⟩ rfl rfl rfl
          · exact absurd hc4 (by simpa using h9)
        · refine r_region ?_
          refine r_p (p_bin rfl rfl b_eq) rfl ?_
          refine r_p (p_assign rfl) rfl ?_
          refine r_nil ?_
          refine r_cond rfl (fun h11 => ?_) (fun h11 => ?_)
          · refine r_region ?_
            refine r_p (p_move rfl) rfl ?_
            refine r_p (p_move rfl) rfl ?_
            refine r_p (p_move rfl) rfl ?_
            refine r_p (p_idx_sl (j := k) Try.underlying74 t79 rfl rfl (hs_sl (k := 0) rfl) (by first | rfl | omega) (by first | omega | (simp; done) | (simp; omega))) rfl ?_
            refine r_p (p_field fo79_1 rfl) rfl ?_
            refine r_p (p_load1 t5 rfl rfl (g_elp (hs_sl (k := 0) rfl) (by intro _; rfl) he rfl)) rfl ?_
            refine r_p (p_bin rfl rfl (b_rem (by omega) (by first | exact tmod_pos (by omega) | rfl))) rfl ?_
            refine r_p (p_conv Try.underlying5 Try.underlying3 rfl (by first | exact w_i64 (by omega) (by omega) | rfl)) rfl ?_
            refine r_call (xs := [.tmp 77, .tmp 84]) (hsteps_spec b21 D v m S k z hz (by omega) (e.n % 40) (by omega)) cb40 [21, 163, 164, 160, 161, 162] [(false, 30), (false, 31), (false, 32), (false, 33), (false, 34)] [21, 163, 164, 160, 161, 162] [30, 31, 32, 33, 34] rfl rfl rfl rfl rfl rfl rfl rfl (fun _ _ => rfl) (fun _ _ _ => rfl) rfl (fun y hy => ?_)
            refine r_p (p_assign rfl) rfl ?_
            refine r_nil ?_
            refine r_seq ?_
            refine r_region ?_
            refine r_p (p_move rfl) rfl ?_
            refine r_p (p_not rfl) rfl ?_
            refine r_nil ?_
            refine r_cond rfl (fun h12 => ?_) (fun h12 => ?_)
            · exact absurd h12 (by simp)
            · (try simp only [decide_eq_true_eq, decide_eq_false_iff_not, Bool.and_eq_true, Bool.or_eq_true, Bool.and_eq_false_iff, Bool.or_eq_false_iff, Bool.not_eq_true, Bool.not_eq_false, Bool.not_eq_true', Bool.not_eq_false', Bool.not_not, bne_iff_ne, beq_iff_eq] at h12)
              refine r_skip ?_
              refine r_region ?_
              refine r_p (p_move rfl) rfl ?_
              refine r_p (p_bin rfl rfl (b_add (by first | exact w_i64 (by omega) (by omega) | rfl))) rfl ?_
              refine r_p (p_assign rfl) rfl ?_
              refine r_nil ?_
              refine r_here (k + 1, y) ⟨⟨by dsimp only; omega, hy⟩, by dsimp only; omega⟩ rfl rfl rfl
          · refine r_seq ?_
            refine r_region ?_
            refine r_p (p_bin rfl rfl b_eq) rfl ?_
            refine r_p (p_assign rfl) rfl ?_
            refine r_nil ?_
            refine r_cond rfl (fun h13 => ?_) (fun h13 => ?_)
            · refine r_seq ?_
              refine r_region ?_
              refine r_p (p_move rfl) rfl ?_
              refine r_p (p_nilCheck rfl) rfl ?_
              refine r_p (p_field0 fo77_7 rfl) rfl ?_
              refine r_p (p_load1 t4 rfl rfl (g_row1 (k := 21) rfl rfl)) rfl ?_
              refine r_p (p_not rfl) rfl ?_
              refine r_nil ?_
              refine r_cond rfl (fun h14 => ?_) (fun h14 => ?_)
              · have hoff : z.off = false := by simpa using h14
                refine r_draw [93, 94, 95, 96, 97, 98, 99, 100, 101, 102, 103, 104] _ rfl (stg_mem (V := [(0, 93, _), (1, 94, _), (2, 95, _), (3, 96, _), (4, 97, _), (5, 98, _), (6, 99, _), (7, 100, _), (8, 101, _), (9, 102, _), (10, 103, _)]) [0, 1, 2, 3, 4, 5, 6, 7, 8, 9, 10] 11 [11, 10, 9, 8, 7, 6, 5, 4, 3, 2, 1, 0] [] (fun _ => []) rfl rfl (prs_cons (pri rfl (p_move rfl)) (prs_cons (pri rfl (p_nilCheck rfl)) (prs_cons (pri rfl (p_field0 fo77_0 rfl)) (prs_cons (pri rfl (p_load1 t24 rfl rfl (g_row1 (k := 21) rfl rfl))) (prs_cons (pri rfl (p_move rfl)) (prs_cons (pri rfl (p_move rfl)) (prs_cons (pri rfl (p_idx_sl (j := k) Try.underlying74 t79 rfl rfl (hs_sl (k := 0) rfl) (by first | rfl | omega) (by first | omega | (simp; done) | (simp; omega)))) (prs_cons (pri rfl (p_field fo79_1 rfl)) (prs_cons (pri rfl (p_load1 t5 rfl rfl (g_elp (hs_sl (k := 0) rfl) (by intro _; rfl) he rfl))) (prs_cons (pri rfl (p_bin rfl rfl (b_rem (by omega) (by first | exact tmod_pos (by omega) | rfl)))) (prs_cons (pri rfl (p_conv Try.underlying5 Try.underlying3 rfl (by first | exact w_i64 (by omega) (by omega) | rfl))) prs_nil))))))))))) rfl rfl rfl rfl rfl rfl rfl rfl rfl rfl rfl (fun _ _ => rfl) rfl (ms_call (xs := [.tmp 96, .tmp 103]) (arm_spec D v (some m) z.off z.armed z.left (e.n % 32)) cb23 [160] [] [160] [] rfl rfl rfl rfl rfl rfl rfl rfl (fun _ _ => rfl) (fun _ _ _ => rfl)) (fun _ _ => stg_end [] rfl rfl prs_nil rfl rfl rfl ?_))
                refine r_conva (k := 160) (A' := row D 94 (dC v (some m) z.off true (e.n % 32))) rfl (fun _ _ h => by rw [if_neg (by simp [hoff]), if_neg (by simp [hoff]), show decide (e.n % 32 ≥ 0) = true by simp; omega] at h; exact h) ?_
                refine r_seq ?_
                refine r_region ?_
                refine r_p (p_move rfl) rfl ?_
                refine r_p (p_not rfl) rfl ?_
                refine r_nil ?_
                refine r_cond rfl (fun h15 => ?_) (fun h15 => ?_)
                · exact absurd h15 (by simp)
                · (try simp only [decide_eq_true_eq, decide_eq_false_iff_not, Bool.and_eq_true, Bool.or_eq_true, Bool.and_eq_false_iff, Bool.or_eq_false_iff, Bool.not_eq_true, Bool.not_eq_false, Bool.not_eq_true', Bool.not_eq_false', Bool.not_not, bne_iff_ne, beq_iff_eq] at h15)
                  refine r_skip ?_
                  refine r_region ?_
                  refine r_p (p_move rfl) rfl ?_
                  refine r_p (p_bin rfl rfl (b_add (by first | exact w_i64 (by omega) (by omega) | rfl))) rfl ?_
                  refine r_p (p_assign rfl) rfl ?_
                  refine r_nil ?_
                  refine r_here (k + 1, ⟨z.J, z.s, z.nx, z.n, z.busy, z.stepped, z.off, z.jl, z.jx, z.i, z.todo, z.vt, true, e.n % 32, z.dur, z.fr⟩) ⟨⟨by dsimp only; omega, ⟨hz1.geo, hz1.hold, hz1.n0, hz1.jl, hz1.sm, hz1.idle, hz1.on⟩⟩, by dsimp only; omega⟩ rfl rfl rfl
              · refine r_skip ?_
                refine r_seq ?_
                refine r_region ?_
                refine r_p (p_move rfl) rfl ?_
                refine r_p (p_not rfl) rfl ?_
                refine r_nil ?_
                refine r_cond rfl (fun h16 => ?_) (fun h16 => ?_)
                · exact absurd h16 (by simp)
                · (try simp only [decide_eq_true_eq, decide_eq_false_iff_not, Bool.and_eq_true, Bool.or_eq_true, Bool.and_eq_false_iff, Bool.or_eq_false_iff, Bool.not_eq_true, Bool.not_eq_false, Bool.not_eq_true', Bool.not_eq_false', Bool.not_not, bne_iff_ne, beq_iff_eq] at h16)
                  refine r_skip ?_
                  refine r_region ?_
                  refine r_p (p_move rfl) rfl ?_
                  refine r_p (p_bin rfl rfl (b_add (by first | exact w_i64 (by omega) (by omega) | rfl))) rfl ?_
                  refine r_p (p_assign rfl) rfl ?_
                  refine r_nil ?_
                  refine r_here (k + 1, z) ⟨⟨by dsimp only; omega, hz1⟩, by dsimp only; omega⟩ rfl rfl rfl
            · refine r_region ?_
              refine r_p (p_move rfl) rfl ?_
              refine r_p (p_move rfl) rfl ?_
              refine r_p (p_move rfl) rfl ?_
              refine r_p (p_idx_sl (j := k) Try.underlying74 t79 rfl rfl (hs_sl (k := 0) rfl) (by first | rfl | omega) (by first | omega | (simp; done) | (simp; omega))) rfl ?_
              refine r_p (p_field fo79_2 rfl) rfl ?_
              refine r_p (p_load1 t28 rfl rfl (g_elp (hs_sl (k := 0) rfl) (by intro _; rfl) he rfl)) rfl ?_
              refine r_more 1 70 rfl (qls_get (List.mem_map.2 ⟨e, List.mem_of_getElem? he, rfl⟩)) ?_
              refine r_call (xs := [.tmp 56, .tmp 61]) (hreopen_spec b21 D v m S k z hz (by omega) e.q.v e.q.l) cb41 [21, 163, 164, 160, 161, 162] [(false, 30), (false, 31), (false, 32), (false, 33), (false, 34), (false, 70)] [21, 163, 164, 160, 161, 162] [30, 31, 32, 33, 34] rfl rfl rfl rfl rfl rfl rfl rfl (fun _ _ => rfl) (fun _ _ _ => rfl) rfl (fun y hy => ?_)
              refine r_p (p_assign rfl) rfl ?_
              refine r_nil ?_
              refine r_seq ?_
              refine r_region ?_
              refine r_p (p_move rfl) rfl ?_
              refine r_p (p_not rfl) rfl ?_
              refine r_nil ?_
              refine r_cond rfl (fun h17 => ?_) (fun h17 => ?_)
              · exact absurd h17 (by simp)
              · (try simp only [decide_eq_true_eq, decide_eq_false_iff_not, Bool.and_eq_true, Bool.or_eq_true, Bool.and_eq_false_iff, Bool.or_eq_false_iff, Bool.not_eq_true, Bool.not_eq_false, Bool.not_eq_true', Bool.not_eq_false', Bool.not_not, bne_iff_ne, beq_iff_eq] at h17)
                refine r_skip ?_
                refine r_region ?_
                refine r_p (p_move rfl) rfl ?_
                refine r_p (p_bin rfl rfl (b_add (by first | exact w_i64 (by omega) (by omega) | rfl))) rfl ?_
                refine r_p (p_assign rfl) rfl ?_
                refine r_nil ?_
                refine r_here (k + 1, y) ⟨⟨by dsimp only; omega, hy⟩, by dsimp only; omega⟩ rfl rfl rfl
    · (try simp only [decide_eq_true_eq, decide_eq_false_iff_not, Bool.and_eq_true, Bool.or_eq_true, Bool.and_eq_false_iff, Bool.or_eq_false_iff, Bool.not_eq_true, Bool.not_eq_false, Bool.not_eq_true', Bool.not_eq_false', Bool.not_not, bne_iff_ne, beq_iff_eq] at h5)
      refine r_exit ?_
      refine r_seq ?_
      refine r_region ?_
      refine r_p (p_move rfl) rfl ?_
      refine r_p (p_move rfl) rfl ?_
      refine r_split (t := 108) rfl (fun h18 => ?_) (fun h18 => False.elim (by simp at h18))
      refine r_gyes rfl rfl ?_
      refine r_p (p_move rfl) rfl ?_
      refine r_gyes rfl rfl ?_
      refine r_p (p_move rfl) rfl ?_
      refine r_gyes rfl rfl ?_
      refine r_call (xs := [.tmp 109, .tmp 110]) (hreopen_spec b21 D v m S k z hz (by omega) vq q) cb41 [21, 163, 164, 160, 161, 162] [(false, 30), (false, 31), (false, 32), (false, 33), (false, 34), (false, 72)] [21, 163, 164, 160, 161, 162] [30, 31, 32, 33, 34] rfl rfl rfl rfl rfl rfl rfl rfl (fun _ _ => rfl) (fun _ _ _ => rfl) rfl (fun y hy => ?_)
      refine r_addR 62 (A := snA sp5) (fun _ => snA_zero) ?_
      refine r_p (p_pick rfl rfl rfl (by first | exact pick_and | exact pick_or |  rfl)) rfl ?_
      refine r_p (p_move rfl) rfl ?_
      refine r_split (t := 113) rfl (fun h19 => ?_) (fun h19 => False.elim (by simp at h19))
      refine r_gyes rfl rfl ?_
      refine r_p (p_move rfl) rfl ?_
      refine r_gyes rfl rfl ?_
      refine r_p (p_build (cs := (snC sp5).toArray) (parts := [(0, .const (.int .i64 5))]) t59 pl59 rfl (by kernel_rfl)) rfl ?_
      refine r_gyes rfl rfl ?_
      refine r_call (xs := [.tmp 114, .tmp 115]) (hbegin_spec b21 D v m S (k + 1) y hy (by omega) sp5 sp5_ok (by have := sp5_len; omega)) cb39 [21, 163, 164, 160, 161, 162] [(false, 30), (false, 31), (false, 32), (false, 33), (false, 34), (false, 62)] [21, 163, 164, 160, 161, 162] [30, 31, 32, 33, 34] rfl rfl rfl rfl rfl rfl rfl rfl (fun _ _ => rfl) (fun _ _ _ => rfl) rfl (fun y2 hy2 => ?_)
      refine r_p (p_pick rfl rfl rfl (by first | exact pick_and | exact pick_or |  rfl)) rfl ?_
      refine r_p (p_assign rfl) rfl ?_
      refine r_nil ?_
      refine r_cret ?_
      refine r_ret () trivial rfl (rs1 (rv_tmp rfl)) rfl [] [] rfl rfl rfl

end Go.Proofs.Ytohenjmkhncoiaa
