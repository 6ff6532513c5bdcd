/-
  The examples of the chapter. No condition.
-/
import Derived.Test.YtbkonlkffajhkaaI3
namespace Go.Proofs.Ytbkonlkffajhkaa
set_option linter.unusedSimpArgs false
set_option linter.unusedVariables false
open Go.RowKit

def eZ : Unit → List Value := fun _ => [.int .i64 0, .int .i64 0, .int .i64 0, .int .u32 0, .int .u32 0, .int .i64 0]
def e0 (s : SV) (p : Int) : En := { dE with pc := p, bytes := ByteArray.mk #[97, 98, 99, 100], sites := s }
def e9 (s : SV) : En := { dE with pc := 3, bytes := ByteArray.mk #[97, 98, 99, 100, 101, 102, 103, 104, 105, 106, 107], sites := s }
def xs1 (s : SV) : En := putE 1000 0 (e0 s 1)
def xs2 (s : SV) : En := putE 1000 4 (e0 s 2)
def xs3 (s : SV) : En := putE 1000 0 (e0 s 3)
def lk1 : Lk := ⟨3, 0, 2⟩
theorem e0_size (s : SV) (p : Int) : (e0 s p).bytes.size = 4 := rfl
theorem off1 (s : SV) : offW 1000 (xs1 s) = 0 := by show IntKind.u32.wrap (1000 + 0 - 1000) = 0; decide
theorem off2 (s : SV) : offW 1000 (xs2 s) = 4 := by show IntKind.u32.wrap (1000 + 4 - 1000) = 4; decide
theorem off3 (s : SV) : offW 1000 (xs3 s) = 0 := by show IntKind.u32.wrap (1000 + 0 - 1000) = 0; decide
theorem sz1 (s : SV) : (xs1 s).bytes.size = 4 := rfl
theorem sz2 (s : SV) : (xs2 s).bytes.size = 4 := rfl
theorem sz3 (s : SV) : (xs3 s).bytes.size = 4 := rfl
theorem cu1 (s : SV) : curN 10 0 ((e0 s 1).bytes.size : Nat) = 0 := by rw [e0_size]; decide
theorem cu2 (s : SV) : curN 10 4 ((e0 s 2).bytes.size : Nat) = 4 := by rw [e0_size]; decide
theorem cu3 (s : SV) : curN 10 8 ((e0 s 3).bytes.size : Nat) = 0 := by rw [e0_size]; decide
theorem rem2 (s : SV) : remL [xs1 s] 1000 4 ((e0 s 2).bytes.size : Nat) (e0 s 2) = [] := by
  have h : inWay 1000 4 ((e0 s 2).bytes.size : Nat) (e0 s 2) (xs1 s) = false := by
    unfold inWay
    rw [off1, sz1, e0_size]
    rfl
  simp [remL, h]
theorem rem3 (s : SV) : remL [xs1 s, xs2 s] 1000 0 ((e0 s 3).bytes.size : Nat) (e0 s 3) = [xs1 s] := by
  have h : inWay 1000 0 ((e0 s 3).bytes.size : Nat) (e0 s 3) (xs1 s) = true := by
    unfold inWay
    rw [off1, sz1, e0_size]
    rfl
  have h2 : inWay 1000 0 ((e0 s 3).bytes.size : Nat) (e0 s 3) (xs2 s) = false := by
    unfold inWay
    rw [off2, sz2, e0_size]
    rfl
  simp [remL, h, h2]
theorem ok1 (s : SV) (hs : s.n = 1) : okB [xs3 s, xs2 s] lk1 = true := by
  have h1 : ([xs3 s, xs2 s].find? fun a => decide (a.pc = lk1.f)) = some (xs3 s) := rfl
  have h2 : ([xs3 s, xs2 s].find? fun a => decide (a.pc = lk1.t)) = some (xs2 s) := rfl
  have h3 : (xs3 s).sites.n = 1 := hs
  unfold okB
  rw [h1, h2]
  simp [h3, lk1]

set_option maxHeartbeats 4000000 in
set_option maxRecDepth 100000 in
theorem sanity_spec  :
    Spec Try.prog 15 [] [] [] (X := Unit) (fun _ => True) (fun _ => .bool true) (fun _ => []) (fun _ => []) := by
  refine r_enter Try.func15 rfl Try.ntmps15 rfl fun w0 M H => ?_
  refine r_seq ?_
  refine r_region ?_
  refine r_p (p_assign rfl) rfl ?_
  refine r_nil ?_
  refine r_seq ?_
  refine r_region ?_
  refine r_call (xs := [.const (.int .u32 1000), .const (.int .i64 10)]) (new_spec 1000 10 (by omega)) cb22 [] [] [500, 501, 502] [] rfl rfl rfl rfl rfl rfl rfl rfl (fun _ _ => rfl) (fun _ _ _ => rfl) rfl (fun C _ => ?_)
  refine r_conva (k := 500) rfl (A' := row C 84 (cC 1000 10 0 none none)) (fun _ _ h => h) ?_
  refine r_p (p_assign rfl) rfl ?_
  refine r_nil ?_
  refine r_seq ?_
  refine r_seq ?_
  refine r_region ?_
  refine r_p (p_move rfl) rfl ?_
  refine r_p (p_bin rfl rfl (b_eqPn Try.underlying25)) rfl ?_
  refine r_nil ?_
  refine r_cond rfl (fun h1 => ?_) (fun h1 => ?_)
  · exact absurd h1 (by simp)
  · (try simp only [decide_eq_true_eq, decide_eq_false_iff_not, Bool.and_eq_true, Bool.or_eq_true, Bool.and_eq_false_iff, Bool.or_eq_false_iff, Bool.not_eq_true, Bool.not_eq_false, Bool.not_eq_true', Bool.not_eq_false', Bool.not_not, bne_iff_ne, beq_iff_eq] at h1)
    refine r_skip ?_
    refine r_seq ?_
    refine r_region ?_
    refine r_p (p_build (parts := []) t88 pl88 rfl rfl) rfl ?_
    refine r_bslice1 eZ () Try.underlying50 t88 rfl (by decide) (by decide) rfl rfl rfl rfl fun v24 => ?_
    refine r_factG (k := 24) rfl (fun w G h => own_n w G h) (fun hs1 => ?_)
    refine r_p (p_build (parts := [(0, .const (.string (ByteArray.mk #[97, 98, 99, 100]))), (1, .tmp 24)]) t52 pl52 rfl rfl) rfl ?_
    refine r_p (p_build (cs := (eEnt (e0 v24 0)).toArray) (parts := [(4, .tmp 25)]) t54 pl54 rfl (by kernel_rfl)) rfl ?_
    refine r_alloc t54 rfl rfl fun b2 => ?_
    refine r_store_all (k := 2) t54 rfl rfl rfl rfl rfl rfl ?_
    refine r_conva (k := 2) rfl (A' := row b2 54 (eEnt (e0 v24 0))) (fun _ _ h => h) ?_
    refine r_nil ?_
    refine r_seq ?_
    refine r_region ?_
    refine r_p (p_field0 fo54_0 rfl) rfl ?_
    refine r_store_row (k := 2) t30 rfl rfl rfl rfl rfl rfl rfl rfl ?_
    refine r_conva (k := 2) rfl (A' := row b2 54 (eEnt (e0 v24 1))) (fun _ _ h => h) ?_
    refine r_nil ?_
    refine r_seq ?_
    refine r_region ?_
    refine r_p (p_move rfl) rfl ?_
    refine r_p (p_loadA t54 rfl rfl rfl (g_all (k := 2) rfl)) rfl ?_
    refine r_call (xs := [.tmp 29, .tmp 30]) (add_ok C 1000 10 0 none none [] [] (e0 v24 1) (by rw [e0_size]; omega) (by rw [e0_size]; omega) (by omega) (by omega) (by simp [sz1, sz2, sz3]) (by simp) (by simp) List.Pairwise.nil (by simp) (by simp) (by rw [e0_size]; omega)) cb19 [500, 501, 502] [] [500, 501, 502, 510, 511] [] rfl rfl rfl rfl rfl rfl rfl rfl (fun _ _ => rfl) (fun _ _ _ => rfl) rfl (fun ⟨va1, vb1, o1⟩ _ => ?_)
    dsimp only
    rw [cu1]
    refine r_conva (k := 500) rfl (A' := row C 84 (cC 1000 10 4 (some o1) none)) (fun _ _ h => h) ?_
    refine r_conva (k := 501) rfl (A' := mpB (some o1) [xs1 v24]) (fun _ _ h => h) ?_
    refine r_p (p_move rfl) rfl ?_
    refine r_p (p_extract rfl rfl) rfl ?_
    refine r_p (p_extract rfl rfl) rfl ?_
    refine r_p (p_extract rfl rfl) rfl ?_
    refine r_p (p_extract rfl rfl) rfl ?_
    refine r_p (p_assign rfl) rfl ?_
    refine r_p (p_assign rfl) rfl ?_
    refine r_p (p_assign rfl) rfl ?_
    refine r_p (p_assign rfl) rfl ?_
    refine r_nil ?_
    refine r_seq ?_
    refine r_region ?_
    refine r_p (p_field0 fo54_0 rfl) rfl ?_
    refine r_store_row (k := 2) t30 rfl rfl rfl rfl rfl rfl rfl rfl ?_
    refine r_conva (k := 2) rfl (A' := row b2 54 (eEnt (e0 v24 2))) (fun _ _ h => h) ?_
    refine r_nil ?_
    refine r_seq ?_
    refine r_region ?_
    refine r_p (p_move rfl) rfl ?_
    refine r_p (p_loadA t54 rfl rfl rfl (g_all (k := 2) rfl)) rfl ?_
    refine r_call (xs := [.tmp 38, .tmp 39]) (add_ok C 1000 10 4 (some o1) none [xs1 v24] [] (e0 v24 2) (by rw [e0_size]; omega) (by rw [e0_size]; omega) (by omega) (by omega) (by simp [sz1, sz2, sz3]) (by simp) (by simp) List.Pairwise.nil (by simp) (by simp) (by rw [e0_size]; omega)) cb19 [500, 501, 502] [] [500, 501, 502, 512, 513] [] rfl rfl rfl rfl rfl rfl rfl rfl (fun _ _ => rfl) (fun _ _ _ => rfl) rfl (fun ⟨va2, vb2, o2⟩ _ => ?_)
    dsimp only
    rw [cu2, rem2]
    refine r_conva (k := 500) rfl (A' := row C 84 (cC 1000 10 8 (some o2) none)) (fun _ _ h => h) ?_
    refine r_conva (k := 501) rfl (A' := mpB (some o2) [xs1 v24, xs2 v24]) (mp_perm (List.Perm.swap _ _ _)) ?_
    refine r_p (p_move rfl) rfl ?_
    refine r_p (p_extract rfl rfl) rfl ?_
    refine r_p (p_extract rfl rfl) rfl ?_
    refine r_p (p_extract rfl rfl) rfl ?_
    refine r_p (p_extract rfl rfl) rfl ?_
    refine r_p (p_assign rfl) rfl ?_
    refine r_p (p_assign rfl) rfl ?_
    refine r_p (p_assign rfl) rfl ?_
    refine r_p (p_assign rfl) rfl ?_
    refine r_nil ?_
    refine r_seq ?_
    refine r_region ?_
    refine r_p (p_field0 fo54_0 rfl) rfl ?_
    refine r_store_row (k := 2) t30 rfl rfl rfl rfl rfl rfl rfl rfl ?_
    refine r_conva (k := 2) rfl (A' := row b2 54 (eEnt (e0 v24 3))) (fun _ _ h => h) ?_
    refine r_nil ?_
    refine r_seq ?_
    refine r_region ?_
    refine r_p (p_move rfl) rfl ?_
    refine r_p (p_loadA t54 rfl rfl rfl (g_all (k := 2) rfl)) rfl ?_
    refine r_call (xs := [.tmp 47, .tmp 48]) (add_ok C 1000 10 8 (some o2) none [xs1 v24, xs2 v24] [] (e0 v24 3) (by rw [e0_size]; omega) (by rw [e0_size]; omega) (by omega) (by omega) (by simp [sz1, sz2, sz3]) (by simp [off1, off2]) (by simp) List.Pairwise.nil (by simp) (by show ([1, 2] : List Int).Nodup; decide) (by rw [e0_size]; omega)) cb19 [500, 501, 502] [] [500, 501, 502, 514, 515] [] rfl rfl rfl rfl rfl rfl rfl rfl (fun _ _ => rfl) (fun _ _ _ => rfl) rfl (fun ⟨va3, vb3, o3⟩ _ => ?_)
    dsimp only
    rw [cu3, rem3]
    refine r_conva (k := 500) rfl (A' := row C 84 (cC 1000 10 4 (some o3) none)) (fun _ _ h => h) ?_
    refine r_conva (k := 501) rfl (A' := mpB (some o3) [xs3 v24, xs2 v24]) (fun _ _ h => h) ?_
    refine r_conva (k := 514) rfl (A' := own 54 36 eEnt (sv va3) [xs1 v24]) (fun _ _ h => h) ?_
    refine r_p (p_move rfl) rfl ?_
    refine r_p (p_extract rfl rfl) rfl ?_
    refine r_p (p_extract rfl rfl) rfl ?_
    refine r_p (p_extract rfl rfl) rfl ?_
    refine r_p (p_extract rfl rfl) rfl ?_
    refine r_p (p_assign rfl) rfl ?_
    refine r_p (p_assign rfl) rfl ?_
    refine r_p (p_assign rfl) rfl ?_
    refine r_p (p_assign rfl) rfl ?_
    refine r_nil ?_
    refine r_seq ?_
    refine r_region ?_
    refine r_p (p_move rfl) rfl ?_
    refine r_p (p_build (parts := [(0, .const (.int .u32 3)), (2, .const (.int .u32 2))]) t64 pl64 rfl rfl) rfl ?_
    refine r_call (xs := [.tmp 54, .tmp 55]) (link_spec C 1000 10 4 (some o3) none [xs3 v24, xs2 v24] [] lk1) cb40 [500, 501, 502] [] [500, 501, 502] [] rfl rfl rfl rfl rfl rfl rfl rfl (fun _ _ => rfl) (fun _ _ _ => rfl) rfl (fun ol _ => ?_)
    refine r_conva (k := 502) rfl (A' := mpL ol [lk1]) (by rw [show linkK [xs3 v24, xs2 v24] [] lk1 = [lk1] by unfold linkK; rw [if_pos (ok1 v24 hs1)]; rfl]; exact fun _ _ h => h) ?_
    refine r_nil ?_
    refine r_seq ?_
    refine r_region ?_
    refine r_p (p_move rfl) rfl ?_
    refine r_call (xs := [.tmp 57, .const (.int .u32 2)]) (remove_spec C 1000 10 4 (some o3) ol [xs3 v24, xs2 v24] [lk1] 2 (by simp) (by simp)) cb35 [500, 501, 502] [] [500, 501, 502, 516] [] rfl rfl rfl rfl rfl rfl rfl rfl (fun _ _ => rfl) (fun _ _ _ => rfl) rfl (fun v58 _ => ?_)
    refine r_conva (k := 501) rfl (A' := mpB (some o3) [xs3 v24]) (fun _ _ h => h) ?_
    refine r_conva (k := 516) rfl (A' := own 64 3 eL (sv v58) [lk1]) (fun _ _ h => h) ?_
    refine r_conva (k := 502) rfl (A' := mpL ol []) (fun _ _ h => h) ?_
    refine r_p (p_assign rfl) rfl ?_
    refine r_nil ?_
    refine r_seq ?_
    refine r_region ?_
    refine r_p (p_field0 fo54_4 rfl) rfl ?_
    refine r_p (p_field fo52_0 rfl) rfl ?_
    refine r_store_row (k := 2) t9 rfl rfl rfl rfl rfl rfl rfl rfl ?_
    refine r_conva (k := 2) rfl (A' := row b2 54 (eEnt (e9 v24))) (fun _ _ h => h) ?_
    refine r_nil ?_
    refine r_seq ?_
    refine r_region ?_
    refine r_p (p_move rfl) rfl ?_
    refine r_p (p_loadA t54 rfl rfl rfl (g_all (k := 2) rfl)) rfl ?_
    refine r_call (xs := [.tmp 62, .tmp 63]) (add_full C 1000 10 4 (some o3) ol [xs3 v24] [] (e9 v24) (by show 0 < 11; omega) (by show (10 : Int) < 11; omega)) cb19 [500, 501, 502] [] [500, 501, 502] [] rfl rfl rfl rfl rfl rfl rfl rfl (fun _ _ => rfl) (fun _ _ _ => rfl) rfl (fun _ _ => ?_)
    refine r_p (p_move rfl) rfl ?_
    refine r_p (p_extract rfl rfl) rfl ?_
    refine r_p (p_extract rfl rfl) rfl ?_
    refine r_p (p_extract rfl rfl) rfl ?_
    refine r_p (p_extract rfl rfl) rfl ?_
    refine r_p (p_assign rfl) rfl ?_
    refine r_p (p_assign rfl) rfl ?_
    refine r_p (p_assign rfl) rfl ?_
    refine r_p (p_assign rfl) rfl ?_
    refine r_nil ?_
    refine r_seq ?_
    refine r_region ?_
    refine r_p (p_move rfl) rfl ?_
    refine r_p (p_bin rfl rfl b_eq) rfl ?_
    refine r_p (p_move rfl) rfl ?_
    refine r_split (t := 71) rfl (fun h2 => ?_) (fun h2 => False.elim (by simp at h2))
    refine r_gyes rfl rfl ?_
    refine r_p (p_move rfl) rfl ?_
    refine r_gyes rfl rfl ?_
    refine r_p (p_bin rfl rfl b_eq) rfl ?_
    refine r_p (p_pick rfl rfl rfl (by first | exact pick_and | exact pick_or |  rfl)) rfl ?_
    refine r_p (p_move rfl) rfl ?_
    refine r_split (t := 75) rfl (fun h3 => ?_) (fun h3 => False.elim (by simp at h3))
    refine r_gyes rfl rfl ?_
    refine r_p (p_move rfl) rfl ?_
    refine r_gyes rfl rfl ?_
    refine r_p (p_bin rfl rfl b_eq) rfl ?_
    refine r_p (p_pick rfl rfl rfl (by first | exact pick_and | exact pick_or |  rfl)) rfl ?_
    refine r_p (p_move rfl) rfl ?_
    refine r_split (t := 79) rfl (fun h4 => ?_) (fun h4 => False.elim (by simp at h4))
    refine r_gyes rfl rfl ?_
    refine r_p (p_move rfl) rfl ?_
    refine r_gyes rfl rfl ?_
    refine r_p (p_len_sl Try.underlying39 rfl (hs_own (k := 514) rfl)) rfl ?_
    refine r_gyes rfl rfl ?_
    refine r_p (p_bin rfl rfl b_eq) rfl ?_
    refine r_p (p_pick rfl rfl rfl (by first | exact pick_and | exact pick_or |  rfl)) rfl ?_
    refine r_p (p_move rfl) rfl ?_
    refine r_split (t := 84) rfl (fun h5 => ?_) (fun h5 => False.elim (by simp at h5))
    refine r_gyes rfl rfl ?_
    refine r_p (p_move rfl) rfl ?_
    refine r_gyes rfl rfl ?_
    refine r_p (p_idx_sl (j := 0) Try.underlying39 t54 rfl rfl (hs_own (k := 514) rfl) (by rfl) (by simp)) rfl ?_
    refine r_gyes rfl rfl ?_
    refine r_p (p_field fo54_0 rfl) rfl ?_
    refine r_gyes rfl rfl ?_
    refine r_p (p_load1 t30 rfl rfl (g_elp (hs_own (k := 514) rfl) (by intro _; rfl) rfl rfl)) rfl ?_
    refine r_gyes rfl rfl ?_
    refine r_p (p_bin rfl rfl b_eq) rfl ?_
    refine r_p (p_pick rfl rfl rfl (by first | exact pick_and | exact pick_or |  rfl)) rfl ?_
    refine r_p (p_move rfl) rfl ?_
    refine r_split (t := 91) rfl (fun h6 => ?_) (fun h6 => False.elim (by simp [xs1, putE, e0] at h6))
    refine r_gyes rfl rfl ?_
    refine r_p (p_move rfl) rfl ?_
    refine r_gyes rfl rfl ?_
    refine r_p (p_len_sl Try.underlying40 rfl (hs_own (k := 516) rfl)) rfl ?_
    refine r_gyes rfl rfl ?_
    refine r_p (p_bin rfl rfl b_eq) rfl ?_
    refine r_p (p_pick rfl rfl rfl (by first | exact pick_and | exact pick_or |  rfl)) rfl ?_
    refine r_p (p_move rfl) rfl ?_
    refine r_split (t := 96) rfl (fun h7 => ?_) (fun h7 => False.elim (by simp at h7))
    refine r_gyes rfl rfl ?_
    refine r_p (p_move rfl) rfl ?_
    refine r_gyes rfl rfl ?_
    refine r_call (xs := [.tmp 97]) (all_spec C 1000 10 4 (some o3) ol [xs3 v24] (by simp) (by simp)) cb26 [] [(true, 500), (true, 501)] [98] [] rfl rfl rfl rfl rfl rfl rfl rfl (fun _ _ => rfl) (fun _ _ _ => rfl) rfl (fun v98 _ => ?_)
    refine r_gyes rfl rfl ?_
    refine r_p (p_len_sl Try.underlying39 rfl (hs_own (k := 98) rfl)) rfl ?_
    refine r_gyes rfl rfl ?_
    refine r_p (p_bin rfl rfl b_eq) rfl ?_
    refine r_p (p_pick rfl rfl rfl (by first | exact pick_and | exact pick_or |  rfl)) rfl ?_
    refine r_p (p_move rfl) rfl ?_
    refine r_split (t := 102) rfl (fun h8 => ?_) (fun h8 => False.elim (by simp at h8))
    refine r_gyes rfl rfl ?_
    refine r_p (p_move rfl) rfl ?_
    refine r_gyes rfl rfl ?_
    refine r_p (p_bin rfl rfl b_eq) rfl ?_
    refine r_p (p_pick rfl rfl rfl (by first | exact pick_and | exact pick_or |  rfl)) rfl ?_
    refine r_p (p_assign rfl) rfl ?_
    refine r_nil ?_
    refine r_cret ?_
    refine r_ret () trivial rfl (rs1 (rv_tmp rfl)) (congrArg Value.bool (by simp)) [] [] rfl rfl rfl

end Go.Proofs.Ytbkonlkffajhkaa
