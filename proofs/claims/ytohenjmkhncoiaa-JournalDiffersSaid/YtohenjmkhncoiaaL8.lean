/-
  The walk of JournalDiffers. Condition: the numbers are of 64 bits.
-/
import Derived.Test.YtohenjmkhncoiaaP2
namespace Go.Proofs.Ytohenjmkhncoiaa
set_option linter.unusedSimpArgs false
set_option linter.unusedVariables false
open Go.RowKit

theorem pre_iff {a b : Sn} (ha : a.Ok) (hb : b.Ok) : ((ofI (eSn a)).extract 0 (min ((ofI (eSn a)).size : Int) ((ofI (eSn b)).size : Int)).toNat == (ofI (eSn b)).extract 0 (min ((ofI (eSn a)).size : Int) ((ofI (eSn b)).size : Int)).toNat) = decide (a = b) := by
  have hA := iv_sn.by_ a ha
  have hB := iv_sn.by_ b hb
  rw [ba_eq]
  apply decide_eq_decide.2
  constructor
  · intro h
    have h2 := congrArg bytesI h
    rw [bytesI_extract, bytesI_extract, bytesI_ofI hA, bytesI_ofI hB, List.drop_zero, List.drop_zero, ofI_size, ofI_size] at h2
    rw [show (min ((eSn a).length : Int) ((eSn b).length : Int)).toNat = min (eSn a).length (eSn b).length by omega] at h2
    by_cases hl : (eSn a).length ≤ (eSn b).length
    · rw [Nat.min_eq_left hl, List.take_length] at h2
      have h3 : eSn a ++ (eSn b).drop (eSn a).length = eSn b := by
        conv => lhs; lhs; rw [h2]
        exact List.take_append_drop _ _
      exact (enc_prefix ha hb h3).1
    · rw [Nat.min_eq_right (by omega), List.take_length] at h2
      have h3 : eSn b ++ (eSn a).drop (eSn b).length = eSn a := by
        conv => lhs; lhs; rw [← h2]
        exact List.take_append_drop _ _
      exact (enc_prefix hb ha h3).1.symm
  · intro h
    rw [h]

set_option maxHeartbeats 1000000 in
set_option maxRecDepth 100000 in
theorem differs_law (v : SV) (q : List Int) (hq : ∀ x ∈ q, okI x) (v2 : SV) (q2 : List Int) (hq2 : ∀ x ∈ q2, okI x) :
    Spec Try.prog 8 [sv v, sv v2] [] [sl 1 eI (sv v) q, sl 1 eI (sv v2) q2] (X := Unit) (fun _ => True) (fun _ => .bool true) (fun _ => []) (fun _ => []) := by
  refine r_enter Try.func8 rfl Try.ntmps8 rfl fun w0 M H => ?_
  refine r_seq ?_
  refine r_region ?_
  refine r_p (p_assign rfl) rfl ?_
  refine r_nil ?_
  refine r_seq ?_
  refine r_region ?_
  refine r_call (xs := []) sanity_spec cb15 [] [] [] [] rfl rfl rfl rfl rfl rfl rfl rfl (fun _ _ => rfl) (fun _ _ _ => rfl) rfl (fun _ _ => ?_)
  refine r_p (p_assign rfl) rfl ?_
  refine r_nil ?_
  refine r_seq ?_
  refine r_region ?_
  refine r_p (p_move rfl) rfl ?_
  refine r_call (xs := [.tmp 13]) (made_spec v q) cb31 [] [(false, 0)] [] [50] rfl rfl rfl rfl rfl rfl rfl rfl (fun _ _ => rfl) (fun _ _ _ => rfl) rfl (fun xa hxa => ?_)
  obtain ⟨a0, a1, a2, a3, a4, hxa⟩ := hxa
  have exa : xa.sn = madeF q := by rw [hxa]; exact madeS_sn _ _ _ _ _ _
  have oxa : xa.sn.Ok := by rw [exa]; exact made_ok _ (okI_xq hq)
  have lxa : (eSn xa.sn).length ≤ 1000 := by rw [exa]; exact made_len _
  have mxa : xa.Sm := Sp.Sm.of (by omega)
  clear hxa exa
  refine r_alloc t59 rfl rfl fun b6 => ?_
  refine r_store_all (k := 6) t59 rfl rfl rfl rfl rfl rfl ?_
  refine r_nil ?_
  refine r_seq ?_
  refine r_region ?_
  refine r_p (p_move rfl) rfl ?_
  refine r_call (xs := [.tmp 15]) (made_spec v2 q2) cb31 [] [(false, 1)] [] [51] rfl rfl rfl rfl rfl rfl rfl rfl (fun _ _ => rfl) (fun _ _ _ => rfl) rfl (fun xb hxb => ?_)
  obtain ⟨a0, a1, a2, a3, a4, hxb⟩ := hxb
  have exb : xb.sn = madeF q2 := by rw [hxb]; exact madeS_sn _ _ _ _ _ _
  have oxb : xb.sn.Ok := by rw [exb]; exact made_ok _ (okI_xq hq2)
  have lxb : (eSn xb.sn).length ≤ 1000 := by rw [exb]; exact made_len _
  have mxb : xb.Sm := Sp.Sm.of (by omega)
  clear hxb exb
  refine r_alloc t59 rfl rfl fun b7 => ?_
  refine r_store_all (k := 7) t59 rfl rfl rfl rfl rfl rfl ?_
  refine r_nil ?_
  refine r_seq ?_
  refine r_region ?_
  refine r_p (p_loadA t59 rfl rfl rfl (g_all (k := 6) rfl)) rfl ?_
  refine r_call (xs := [.tmp 17]) (bytes_spec xa oxa (by omega)) cb32 [] [(false, 50)] [] [] rfl rfl rfl rfl rfl rfl rfl rfl (fun _ _ => rfl) (fun _ _ _ => rfl) rfl (fun _ _ => ?_)
  refine r_p (p_assign rfl) rfl ?_
  refine r_nil ?_
  refine r_seq ?_
  refine r_region ?_
  refine r_p (p_loadA t59 rfl rfl rfl (g_all (k := 7) rfl)) rfl ?_
  refine r_call (xs := [.tmp 19]) (bytes_spec xb oxb (by omega)) cb32 [] [(false, 51)] [] [] rfl rfl rfl rfl rfl rfl rfl rfl (fun _ _ => rfl) (fun _ _ _ => rfl) rfl (fun _ _ => ?_)
  refine r_p (p_assign rfl) rfl ?_
  refine r_nil ?_
  refine r_seq ?_
  refine r_region ?_
  refine r_p (p_move rfl) rfl ?_
  refine r_p (p_len_str Try.underlying9 rfl) rfl ?_
  refine r_p (p_move rfl) rfl ?_
  refine r_p (p_len_str Try.underlying9 rfl) rfl ?_
  refine r_p (p_min rfl rfl rfl) rfl ?_
  refine r_p (p_assign rfl) rfl ?_
  refine r_nil ?_
  refine r_seq ?_
  refine r_draw [26, 27, 28, 29, 30, 31, 32, 11] _ rfl (stg_end (V := [(0, 26, _), (1, 27, _), (2, 28, _), (3, 29, _), (4, 30, _), (5, 31, _), (6, 32, _), (7, 11, _)]) [0, 1, 2, 3, 4, 5, 6, 7] rfl rfl (prs_cons (pri rfl (p_move rfl)) (prs_cons (pri rfl (p_move rfl)) (prs_cons (pri rfl (p_slice_strhi Try.underlying9 rfl rfl (by omega) (by omega))) (prs_cons (pri rfl (p_move rfl)) (prs_cons (pri rfl (p_move rfl)) (prs_cons (pri rfl (p_slice_strhi Try.underlying9 rfl rfl (by omega) (by omega))) (prs_cons (pri rfl (p_bin rfl rfl b_seq)) (prs_cons (pri rfl (p_assign rfl)) prs_nil)))))))) rfl rfl rfl ?_)
  rw [pre_iff oxa oxb]
  refine r_seq ?_
  refine r_region ?_
  refine r_p (p_move rfl) rfl ?_
  refine r_p (p_move rfl) rfl ?_
  refine r_split (t := 34) rfl (fun h1 => ?_) (fun h1 => False.elim (by simp at h1))
  refine r_gyes rfl rfl ?_
  refine r_p (p_move rfl) rfl ?_
  refine r_gyes rfl rfl ?_
  refine r_p (p_loadA t59 rfl rfl rfl (g_all (k := 6) rfl)) rfl ?_
  refine r_gyes rfl rfl ?_
  refine r_p (p_loadA t59 rfl rfl rfl (g_all (k := 7) rfl)) rfl ?_
  refine r_gyes rfl rfl ?_
  refine r_call (xs := [.tmp 36, .tmp 37]) (same_spec xa xb mxa) cb34 [] [(false, 50), (false, 51)] [] [] rfl rfl rfl rfl rfl rfl rfl rfl (fun _ _ => rfl) (fun _ _ _ => rfl) rfl (fun _ _ => ?_)
  refine r_gyes rfl rfl ?_
  refine r_p (p_bin rfl rfl (b_beq Try.underlying4)) rfl ?_
  refine r_p (p_pick rfl rfl rfl (by first | exact pick_and | exact pick_or |  rfl)) rfl ?_
  refine r_p (p_move rfl) rfl ?_
  refine r_gp [] rfl rfl trivial (fun hg2 => p_move rfl) rfl ?_
  refine r_gp [(42, _)] rfl rfl ⟨rfl, trivial⟩ (fun hg3 => p_not rfl) rfl ?_
  refine r_gp [(42, _), (43, _)] rfl rfl ⟨rfl, rfl, trivial⟩ (fun hg4 => p_move rfl) rfl ?_
  refine r_gp2 [] [(42, _), (43, _), (44, _)] rfl rfl trivial ⟨rfl, rfl, rfl, trivial⟩ (fun hg5 hg5' => p_move rfl) rfl ?_
  refine r_gp2 [(45, _)] [(42, _), (43, _), (44, _)] rfl rfl ⟨rfl, trivial⟩ ⟨rfl, rfl, rfl, trivial⟩ (fun hg6 hg6' => p_len_str Try.underlying9 rfl) rfl ?_
  refine r_gp2 [(45, _), (46, _)] [(42, _), (43, _), (44, _)] rfl rfl ⟨rfl, rfl, trivial⟩ ⟨rfl, rfl, rfl, trivial⟩ (fun hg7 hg7' => p_move rfl) rfl ?_
  refine r_gp2 [(45, _), (46, _), (47, _)] [(42, _), (43, _), (44, _)] rfl rfl ⟨rfl, rfl, rfl, trivial⟩ ⟨rfl, rfl, rfl, trivial⟩ (fun hg8 hg8' => p_len_str Try.underlying9 rfl) rfl ?_
  refine r_gp2 [(45, _), (46, _), (47, _), (48, _)] [(42, _), (43, _), (44, _)] rfl rfl ⟨rfl, rfl, rfl, rfl, trivial⟩ ⟨rfl, rfl, rfl, trivial⟩ (fun hg9 hg9' => p_bin rfl rfl b_eq) rfl ?_
  refine r_gp [(42, _), (43, _), (44, _)] rfl rfl ⟨rfl, rfl, rfl, trivial⟩ (fun hg10 => p_pick rfl rfl rfl (by first | exact pick_and | exact pick_or | exact pick_and2 hg10 | exact pick_or2 hg10 | rfl)) rfl ?_
  refine r_p (p_pick rfl rfl rfl (by first | exact pick_and | exact pick_or |  rfl)) rfl ?_
  refine r_p (p_assign rfl) rfl ?_
  refine r_nil ?_
  refine r_cret ?_
  refine r_ret () trivial rfl (rs1 (rv_tmp rfl)) (by by_cases hab : xa.sn = xb.sn <;> simp [gv, gb, hab]) [] [] rfl rfl rfl

end Go.Proofs.Ytohenjmkhncoiaa
