/-
  The walk of JournalNone. Condition: the numbers are of 64 bits.
-/
import Derived.Test.YtohenjmkhncoiaaP2
namespace Go.Proofs.Ytohenjmkhncoiaa
set_option linter.unusedSimpArgs false
set_option linter.unusedVariables false
open Go.RowKit

set_option maxHeartbeats 2000000 in
set_option maxRecDepth 100000 in
theorem none_law (n : Int) (hn : okI n) (vq : SV) (q : List Int) (hq : ∀ x ∈ q, okI x) :
    Spec Try.prog 14 [.int .i64 n, sv vq] [] [sl 1 eI (sv vq) q] (X := Unit) (fun _ => True) (fun _ => .bool true) (fun _ => []) (fun _ => []) := by
  refine r_enter Try.func14 rfl Try.ntmps14 rfl fun w0 M H => ?_
  refine r_addR 90 (A := snA zSp) (fun _ => snA_zero) ?_
  refine r_seq ?_
  refine r_region ?_
  refine r_p (p_assign rfl) rfl ?_
  refine r_nil ?_
  refine r_seq ?_
  refine r_region ?_
  refine r_call (xs := []) sanity_spec cb15 [] [] [] [] rfl rfl rfl rfl rfl rfl rfl rfl (fun _ _ => rfl) (fun _ _ _ => rfl) rfl (fun _ _ => ?_)
  refine r_p (p_assign rfl) rfl ?_
  refine r_nil ?_
  refine r_seq ?_
  refine r_region ?_
  refine r_p (p_assign rfl) rfl ?_
  refine r_nil ?_
  refine r_seq ?_
  refine r_region ?_
  refine r_p (p_move rfl) rfl ?_
  refine r_p (p_move rfl) rfl ?_
  refine r_call (xs := [.tmp 26, .tmp 27]) (arm_nil n) cb23 [] [] [] [] rfl rfl rfl rfl rfl rfl rfl rfl (fun _ _ => rfl) (fun _ _ _ => rfl) rfl (fun _ _ => ?_)
  refine r_nil ?_
  refine r_seq ?_
  refine r_region ?_
  refine r_p (p_move rfl) rfl ?_
  refine r_p (p_move rfl) rfl ?_
  refine r_call (xs := [.tmp 29, .tmp 30]) (crash_nil vq) cb25 [] [] [] [] rfl rfl rfl rfl rfl rfl rfl rfl (fun _ _ => rfl) (fun _ _ _ => rfl) rfl (fun _ _ => ?_)
  refine r_nil ?_
  refine r_seq ?_
  refine r_region ?_
  refine r_p (p_move rfl) rfl ?_
  refine r_p (p_move rfl) rfl ?_
  refine r_call (xs := [.tmp 33, .tmp 34]) (read_nil n) cb27 [] [] [] [] rfl rfl rfl rfl rfl rfl rfl rfl (fun _ _ => rfl) (fun _ _ _ => rfl) rfl (fun _ _ => ?_)
  refine r_p (p_move rfl) rfl ?_
  refine r_p (p_extract rfl rfl) rfl ?_
  refine r_p (p_extract rfl rfl) rfl ?_
  refine r_p (p_assign rfl) rfl ?_
  refine r_p (p_assign rfl) rfl ?_
  refine r_nil ?_
  refine r_seq ?_
  refine r_region ?_
  refine r_p (p_move rfl) rfl ?_
  refine r_p (p_move rfl) rfl ?_
  refine r_call (xs := [.const (.int .u32 1), .const (.int .i64 64)]) (fill_spec 1 64 (by decide) (by decide)) cb18 [] [] [] [] rfl rfl rfl rfl rfl rfl rfl rfl (fun _ _ => rfl) (fun _ _ _ => rfl) rfl (fun _ _ => ?_)
  refine r_call (xs := [.tmp 38, .tmp 39, .tmp 40]) (write_nil n (fillS 1 (64 : Int).toNat)) cb19 [] [] [] [] rfl rfl rfl rfl rfl rfl rfl rfl (fun _ _ => rfl) (fun _ _ _ => rfl) rfl (fun _ _ => ?_)
  refine r_p (p_assign rfl) rfl ?_
  refine r_nil ?_
  refine r_seq ?_
  refine r_region ?_
  refine r_p (p_move rfl) rfl ?_
  refine r_call (xs := [.tmp 43]) open_nil cb30 [] [] [] [] rfl rfl rfl rfl rfl rfl rfl rfl (fun _ _ => rfl) (fun _ _ _ => rfl) rfl (fun _ _ => ?_)
  refine r_p (p_move rfl) rfl ?_
  refine r_p (p_extract rfl rfl) rfl ?_
  refine r_p (p_extract rfl rfl) rfl ?_
  refine r_p (p_assign rfl) rfl ?_
  refine r_p (p_assign rfl) rfl ?_
  refine r_nil ?_
  refine r_seq ?_
  refine r_region ?_
  refine r_p (p_move rfl) rfl ?_
  refine r_call (xs := [.tmp 48]) last_nil cb44 [] [] [] [] rfl rfl rfl rfl rfl rfl rfl rfl (fun _ _ => rfl) (fun _ _ _ => rfl) rfl (fun _ _ => ?_)
  refine r_p (p_move rfl) rfl ?_
  refine r_p (p_extract rfl rfl) rfl ?_
  refine r_p (p_extract rfl rfl) rfl ?_
  refine r_p (p_extract rfl rfl) rfl ?_
  refine r_alloc t59 rfl rfl fun b12 => ?_
  refine r_store_all (k := 12) t59 rfl rfl rfl rfl rfl rfl ?_
  refine r_p (p_assign rfl) rfl ?_
  refine r_p (p_assign rfl) rfl ?_
  refine r_nil ?_
  refine r_seq ?_
  refine r_region ?_
  refine r_p (p_move rfl) rfl ?_
  refine r_p (p_move rfl) rfl ?_
  refine r_call (xs := [.tmp 54]) (made_spec vq q) cb31 [] [(false, 0)] [] [50] rfl rfl rfl rfl rfl rfl rfl rfl (fun _ _ => rfl) (fun _ _ _ => rfl) rfl (fun xa hxa => ?_)
  refine r_call (xs := [.tmp 53, .tmp 55]) (begin_nil xa) cb42 [] [] [] [] rfl rfl rfl rfl rfl rfl rfl rfl (fun _ _ => rfl) (fun _ _ _ => rfl) rfl (fun _ _ => ?_)
  refine r_p (p_assign rfl) rfl ?_
  refine r_nil ?_
  refine r_seq ?_
  refine r_region ?_
  refine r_p (p_move rfl) rfl ?_
  refine r_call (xs := [.tmp 58]) step_nil cb43 [] [] [] [] rfl rfl rfl rfl rfl rfl rfl rfl (fun _ _ => rfl) (fun _ _ _ => rfl) rfl (fun _ _ => ?_)
  refine r_p (p_move rfl) rfl ?_
  refine r_p (p_extract rfl rfl) rfl ?_
  refine r_p (p_extract rfl rfl) rfl ?_
  refine r_p (p_assign rfl) rfl ?_
  refine r_p (p_assign rfl) rfl ?_
  refine r_nil ?_
  refine r_seq ?_
  refine r_region ?_
  refine r_p (p_move rfl) rfl ?_
  refine r_p (p_bin rfl rfl (b_and (and3 _))) rfl ?_
  refine r_call (xs := [.tmp 64]) (newdisk_spec (n % 4)) cb16 [] [] [70, 71, 72] [] rfl rfl rfl rfl rfl rfl rfl rfl (fun _ _ => rfl) (fun _ _ _ => rfl) rfl (fun d1 _ => ?_)
  obtain ⟨D1, v1, m1⟩ := d1
  dsimp only
  refine r_call (xs := [.tmp 65]) (open_small D1 v1 (some m1) false false 0 (List.replicate (max 0 (min (n % 4) 65536)).toNat zsec) [] (by rw [List.length_replicate]; omega)) cb30 [] [(true, 70), (true, 71), (true, 72)] [] [] rfl rfl rfl rfl rfl rfl rfl rfl (fun _ _ => rfl) (fun _ _ _ => rfl) rfl (fun _ _ => ?_)
  refine r_p (p_move rfl) rfl ?_
  refine r_p (p_extract rfl rfl) rfl ?_
  refine r_p (p_extract rfl rfl) rfl ?_
  refine r_p (p_assign rfl) rfl ?_
  refine r_p (p_assign rfl) rfl ?_
  refine r_nil ?_
  refine r_seq ?_
  refine r_region ?_
  refine r_p (p_move rfl) rfl ?_
  refine r_call (xs := [.tmp 69]) sectors_nil cb29 [] [] [] [] rfl rfl rfl rfl rfl rfl rfl rfl (fun _ _ => rfl) (fun _ _ _ => rfl) rfl (fun _ _ => ?_)
  refine r_p (p_bin rfl rfl b_eq) rfl ?_
  refine r_p (p_move rfl) rfl ?_
  refine r_split (t := 72) rfl (fun h1 => ?_) (fun h1 => False.elim (by simp at h1))
  refine r_gyes rfl rfl ?_
  refine r_p (p_move rfl) rfl ?_
  refine r_gyes rfl rfl ?_
  refine r_p (p_bin rfl rfl b_eq) rfl ?_
  refine r_p (p_pick rfl rfl rfl (by first | exact pick_and | exact pick_or |  rfl)) rfl ?_
  refine r_p (p_move rfl) rfl ?_
  refine r_split (t := 76) rfl (fun h2 => ?_) (fun h2 => False.elim (by simp at h2))
  refine r_gyes rfl rfl ?_
  refine r_p (p_move rfl) rfl ?_
  refine r_gyes rfl rfl ?_
  refine r_p (p_bin rfl rfl b_eq) rfl ?_
  refine r_p (p_pick rfl rfl rfl (by first | exact pick_and | exact pick_or |  rfl)) rfl ?_
  refine r_p (p_move rfl) rfl ?_
  refine r_split (t := 80) rfl (fun h3 => ?_) (fun h3 => False.elim (by simp at h3))
  refine r_gyes rfl rfl ?_
  refine r_p (p_move rfl) rfl ?_
  refine r_gyes rfl rfl ?_
  refine r_call (xs := [.tmp 81]) sync_nil cb21 [] [] [] [] rfl rfl rfl rfl rfl rfl rfl rfl (fun _ _ => rfl) (fun _ _ _ => rfl) rfl (fun _ _ => ?_)
  refine r_gyes rfl rfl ?_
  refine r_p (p_bin rfl rfl b_eq) rfl ?_
  refine r_p (p_pick rfl rfl rfl (by first | exact pick_and | exact pick_or |  rfl)) rfl ?_
  refine r_p (p_move rfl) rfl ?_
  refine r_split (t := 85) rfl (fun h4 => ?_) (fun h4 => False.elim (by simp at h4))
  refine r_gyes rfl rfl ?_
  refine r_p (p_move rfl) rfl ?_
  refine r_gyes rfl rfl ?_
  refine r_p (p_bin rfl rfl (b_eqPn Try.underlying49)) rfl ?_
  refine r_p (p_pick rfl rfl rfl (by first | exact pick_and | exact pick_or |  rfl)) rfl ?_
  refine r_p (p_move rfl) rfl ?_
  refine r_split (t := 89) rfl (fun h5 => ?_) (fun h5 => False.elim (by simp at h5))
  refine r_gyes rfl rfl ?_
  refine r_p (p_move rfl) rfl ?_
  refine r_gyes rfl rfl ?_
  refine r_p (p_bin rfl rfl b_eq) rfl ?_
  refine r_p (p_pick rfl rfl rfl (by first | exact pick_and | exact pick_or |  rfl)) rfl ?_
  refine r_p (p_move rfl) rfl ?_
  refine r_split (t := 93) rfl (fun h6 => ?_) (fun h6 => False.elim (by simp at h6))
  refine r_gyes rfl rfl ?_
  refine r_p (p_move rfl) rfl ?_
  refine r_gyes rfl rfl ?_
  refine r_p (p_bin rfl rfl b_eq) rfl ?_
  refine r_p (p_pick rfl rfl rfl (by first | exact pick_and | exact pick_or |  rfl)) rfl ?_
  refine r_p (p_move rfl) rfl ?_
  refine r_split (t := 97) rfl (fun h7 => ?_) (fun h7 => False.elim (by simp at h7))
  refine r_gyes rfl rfl ?_
  refine r_p (p_move rfl) rfl ?_
  refine r_gyes rfl rfl ?_
  refine r_p (p_not rfl) rfl ?_
  refine r_p (p_pick rfl rfl rfl (by first | exact pick_and | exact pick_or |  rfl)) rfl ?_
  refine r_p (p_move rfl) rfl ?_
  refine r_split (t := 101) rfl (fun h8 => ?_) (fun h8 => False.elim (by simp at h8))
  refine r_gyes rfl rfl ?_
  refine r_p (p_loadA t59 rfl rfl rfl (g_all (k := 12) rfl)) rfl ?_
  refine r_gyes rfl rfl ?_
  refine r_p (p_build (parts := []) t59 pl59 rfl rfl) rfl ?_
  refine r_gyes rfl rfl ?_
  refine r_call (xs := [.tmp 102, .tmp 103]) (same_spec zSp zSp Sp.Sm.zero) cb34 [] [(false, 90), (false, 90)] [] [] rfl rfl rfl rfl rfl rfl rfl rfl (fun _ _ => rfl) (fun _ _ _ => rfl) rfl (fun _ _ => ?_)
  refine r_p (p_pick rfl rfl rfl (by first | exact pick_and | exact pick_or |  rfl)) rfl ?_
  refine r_p (p_assign rfl) rfl ?_
  refine r_nil ?_
  refine r_seq ?_
  refine r_region ?_
  refine r_call (xs := [.const (.int .i64 4)]) (newdisk_spec 4) cb16 [] [] [60, 61, 62] [] rfl rfl rfl rfl rfl rfl rfl rfl (fun _ _ => rfl) (fun _ _ _ => rfl) rfl (fun d3 _ => ?_)
  obtain ⟨D, v, m⟩ := d3
  dsimp only
  refine r_conva (k := 62) (A' := own 9 1 eS (sv v) (List.replicate 4 zsec)) rfl (fun _ _ h => h) ?_
  obtain ⟨hg0, hh0⟩ := hold_new (S := 4) (by decide) (by decide)
  refine r_call (xs := [.tmp 107]) (open_run D v m false 0 (List.replicate 4 zsec) hg0 hh0) cb30 [60, 61, 62] [] [63, 60, 61, 62] [52] rfl rfl rfl rfl rfl rfl rfl rfl (fun _ _ => rfl) (fun _ _ _ => rfl) rfl (fun j1 hj1 => ?_)
  obtain ⟨J, lst⟩ := j1
  dsimp only at hj1 ⊢
  have ml : lst.Sm := Sp.Sm.zero.congr hj1
  refine r_addG 64 (A := ownX 35 (acV D) nilS []) ownX_nil ?_
  refine r_p (p_move rfl) rfl ?_
  refine r_p (p_extract rfl rfl) rfl ?_
  refine r_p (p_extract rfl rfl) rfl ?_
  refine r_p (p_assign rfl) rfl ?_
  refine r_p (p_assign rfl) rfl ?_
  refine r_nil ?_
  refine r_seq ?_
  refine r_seq ?_
  refine r_region ?_
  refine r_p (p_move rfl) rfl ?_
  refine r_p (p_bin rfl rfl (b_eqPn Try.underlying49)) rfl ?_
  refine r_p (p_move rfl) rfl ?_
  refine r_split (t := 113) rfl (fun h9 => False.elim (by simp at h9)) (fun h9 => ?_)
  refine r_gyes rfl rfl ?_
  refine r_p (p_move rfl) rfl ?_
  refine r_gyes rfl rfl ?_
  refine r_p (p_bin rfl rfl b_ne) rfl ?_
  refine r_p (p_pick rfl rfl rfl (by first | exact pick_and | exact pick_or |  rfl)) rfl ?_
  refine r_nil ?_
  refine r_cond rfl (fun h10 => ?_) (fun h10 => ?_)
  · exact absurd h10 (by simp)
  · (try simp only [decide_eq_true_eq, decide_eq_false_iff_not, Bool.and_eq_true, Bool.or_eq_true, Bool.and_eq_false_iff, Bool.or_eq_false_iff, Bool.not_eq_true, Bool.not_eq_false, Bool.not_eq_true', Bool.not_eq_false', Bool.not_not, bne_iff_ne, beq_iff_eq] at h10)
    refine r_skip ?_
    refine r_seq ?_
    refine r_region ?_
    refine r_p (p_move rfl) rfl ?_
    refine r_call (xs := [.tmp 118]) (step_none J D lst 0 zSp nilS) cb43 [] [(true, 63), (true, 64)] [] [] rfl rfl rfl rfl rfl rfl rfl rfl (fun _ _ => rfl) (fun _ _ _ => rfl) rfl (fun _ _ => ?_)
    refine r_p (p_move rfl) rfl ?_
    refine r_p (p_extract rfl rfl) rfl ?_
    refine r_p (p_extract rfl rfl) rfl ?_
    refine r_p (p_assign rfl) rfl ?_
    refine r_p (p_assign rfl) rfl ?_
    refine r_nil ?_
    refine r_seq ?_
    refine r_region ?_
    refine r_p (p_move rfl) rfl ?_
    refine r_p (p_move rfl) rfl ?_
    refine r_split (t := 123) rfl (fun h11 => ?_) (fun h11 => False.elim (by simp at h11))
    refine r_gyes rfl rfl ?_
    refine r_p (p_move rfl) rfl ?_
    refine r_p (p_pick rfl rfl rfl (by first | exact pick_and | exact pick_or |  rfl)) rfl ?_
    refine r_p (p_move rfl) rfl ?_
    refine r_split (t := 126) rfl (fun h12 => ?_) (fun h12 => False.elim (by simp at h12))
    refine r_gyes rfl rfl ?_
    refine r_p (p_move rfl) rfl ?_
    refine r_gyes rfl rfl ?_
    refine r_p (p_bin rfl rfl b_eq) rfl ?_
    refine r_p (p_pick rfl rfl rfl (by first | exact pick_and | exact pick_or |  rfl)) rfl ?_
    refine r_p (p_move rfl) rfl ?_
    refine r_split (t := 130) rfl (fun h13 => ?_) (fun h13 => False.elim (by simp at h13))
    refine r_gyes rfl rfl ?_
    refine r_p (p_move rfl) rfl ?_
    refine r_gyes rfl rfl ?_
    refine r_p (p_not rfl) rfl ?_
    refine r_p (p_pick rfl rfl rfl (by first | exact pick_and | exact pick_or |  rfl)) rfl ?_
    refine r_p (p_move rfl) rfl ?_
    refine r_split (t := 134) rfl (fun h14 => ?_) (fun h14 => False.elim (by simp at h14))
    refine r_gyes rfl rfl ?_
    refine r_p (p_move rfl) rfl ?_
    refine r_gyes rfl rfl ?_
    refine r_p (p_bin rfl rfl b_eq) rfl ?_
    refine r_p (p_pick rfl rfl rfl (by first | exact pick_and | exact pick_or |  rfl)) rfl ?_
    refine r_p (p_move rfl) rfl ?_
    refine r_split (t := 138) rfl (fun h15 => ?_) (fun h15 => False.elim (by simp at h15))
    refine r_gyes rfl rfl ?_
    refine r_p (p_move rfl) rfl ?_
    refine r_gyes rfl rfl ?_
    refine r_call (xs := [.tmp 139]) busy_nil cb36 [] [] [] [] rfl rfl rfl rfl rfl rfl rfl rfl (fun _ _ => rfl) (fun _ _ _ => rfl) rfl (fun _ _ => ?_)
    refine r_gyes rfl rfl ?_
    refine r_p (p_not rfl) rfl ?_
    refine r_p (p_pick rfl rfl rfl (by first | exact pick_and | exact pick_or |  rfl)) rfl ?_
    refine r_p (p_move rfl) rfl ?_
    refine r_split (t := 143) rfl (fun h16 => ?_) (fun h16 => False.elim (by simp at h16))
    refine r_gyes rfl rfl ?_
    refine r_p (p_move rfl) rfl ?_
    refine r_gyes rfl rfl ?_
    refine r_p (p_bin rfl rfl (b_eqPn Try.underlying49)) rfl ?_
    refine r_p (p_pick rfl rfl rfl (by first | exact pick_and | exact pick_or |  rfl)) rfl ?_
    refine r_p (p_move rfl) rfl ?_
    refine r_split (t := 147) rfl (fun h17 => ?_) (fun h17 => False.elim (by simp at h17))
    refine r_gyes rfl rfl ?_
    refine r_p (p_move rfl) rfl ?_
    refine r_gyes rfl rfl ?_
    refine r_p (p_bin rfl rfl b_eq) rfl ?_
    refine r_p (p_pick rfl rfl rfl (by first | exact pick_and | exact pick_or |  rfl)) rfl ?_
    refine r_p (p_move rfl) rfl ?_
    refine r_split (t := 151) rfl (fun h18 => ?_) (fun h18 => False.elim (by simp at h18))
    refine r_gyes rfl rfl ?_
    refine r_p (p_move rfl) rfl ?_
    refine r_gyes rfl rfl ?_
    refine r_p (p_bin rfl rfl b_eq) rfl ?_
    refine r_p (p_pick rfl rfl rfl (by first | exact pick_and | exact pick_or |  rfl)) rfl ?_
    refine r_p (p_move rfl) rfl ?_
    refine r_split (t := 155) rfl (fun h19 => ?_) (fun h19 => False.elim (by simp at h19))
    refine r_gyes rfl rfl ?_
    refine r_p (p_move rfl) rfl ?_
    refine r_gyes rfl rfl ?_
    refine r_call (xs := [.tmp 156]) (busy_spec J D lst 0 zSp nilS []) cb36 [] [(true, 63), (true, 64)] [] [] rfl rfl rfl rfl rfl rfl rfl rfl (fun _ _ => rfl) (fun _ _ _ => rfl) rfl (fun _ _ => ?_)
    refine r_gyes rfl rfl ?_
    refine r_p (p_not rfl) rfl ?_
    refine r_p (p_pick rfl rfl rfl (by first | exact pick_and | exact pick_or |  rfl)) rfl ?_
    refine r_p (p_assign rfl) rfl ?_
    refine r_nil ?_
    refine r_cret ?_
    refine r_ret () trivial rfl (rs1 (rv_tmp rfl)) (by first | rfl | simp) [] [] rfl rfl rfl

end Go.Proofs.Ytohenjmkhncoiaa
