/-
  CacheNone walks. No condition.
-/
import Derived.Test.YtbkonlkffajhkaaN1
import Derived.Test.YtbkonlkffajhkaaN2
namespace Go.Proofs.Ytbkonlkffajhkaa
set_option linter.unusedSimpArgs false
set_option linter.unusedVariables false
open Go.RowKit

set_option maxHeartbeats 1000000 in
set_option maxRecDepth 100000 in
theorem on_nil (pg : Int) :
    Spec Try.prog 38 [.pointer none, .int .i64 pg] [] [] (X := SV) (fun _ => True) (fun x => sv x) (fun x => [own 30 1 eU (sv x) []]) (fun _ => []) := by
  refine r_enter Try.func38 rfl Try.ntmps38 rfl fun w0 M H => ?_
  refine r_nilown 100 (S := 30) (s := 1) (enc := eU) ?_
  refine r_seq ?_
  refine r_region ?_
  refine r_box1 rfl rfl rfl fun b3 => ?_
  refine r_p (p_assign rfl) rfl ?_
  refine r_nil ?_
  refine r_seq ?_
  refine r_region ?_
  refine r_p (p_assign rfl) rfl ?_
  refine r_nil ?_
  refine r_seq ?_
  refine r_seq ?_
  refine r_region ?_
  refine r_p (p_move rfl) rfl ?_
  refine r_p (p_makeFunc (first := []) (cap := [.tmp 3]) rfl rfl) rfl ?_
  refine r_call (xs := [.tmp 8, .tmp 9]) (pick_nil _) cb42 [] [] [] [] rfl rfl rfl rfl rfl rfl rfl rfl (fun _ _ => rfl) (fun _ _ _ => rfl) rfl (fun _ _ => ?_)
  refine r_p (p_len_sv Try.underlying39 rfl) rfl ?_
  refine r_p (p_move rfl) rfl ?_
  refine r_nil ?_
  refine r_block ?_
  refine r_loop (X := Unit) (fun _ => True) (fun _ => [(5, sv nilS), (10, sv nilS), (11, .int .i64 0), (12, .int .i64 0)]) (fun _ => [(100, own 30 1 eU (sv nilS) [])]) (fun _ => []) (fun _ => 0) () trivial rfl rfl rfl (fun _ _ => ?_)
  refine r_seq ?_
  refine r_region ?_
  refine r_p (p_bin rfl rfl b_lt) rfl ?_
  refine r_nil ?_
  refine r_seq ?_
  refine r_cond rfl (fun h1 => ?_) (fun h1 => ?_)
  · exact absurd h1 (by simp)
  · (try simp only [decide_eq_true_eq, decide_eq_false_iff_not, Bool.and_eq_true, Bool.or_eq_true, Bool.and_eq_false_iff, Bool.or_eq_false_iff, Bool.not_eq_true, Bool.not_eq_false, Bool.not_eq_true', Bool.not_eq_false', Bool.not_not, bne_iff_ne, beq_iff_eq] at h1)
    refine r_exit ?_
    refine r_seq ?_
    refine r_region ?_
    refine r_p (p_move rfl) rfl ?_
    refine r_call (xs := [.tmp 22]) (sort_small nilS [] (by simp)) cb56 [100] [] [100] [] rfl rfl rfl rfl rfl rfl rfl rfl (fun _ _ => rfl) (fun _ _ _ => rfl) rfl (fun ys hys => ?_)
    obtain rfl : ys = [] := List.perm_nil.1 hys.1
    refine r_nil ?_
    refine r_seq ?_
    refine r_region ?_
    refine r_p (p_move rfl) rfl ?_
    refine r_p (p_assign rfl) rfl ?_
    refine r_nil ?_
    refine r_cret ?_
    refine r_ret nilS trivial rfl (rs1 (rv_tmp rfl)) rfl [100] [] rfl rfl rfl
theorem ci0 : CInv PS12 0 0 0 [] [] := ⟨by omega, by omega, List.Pairwise.nil, by simp, by simp, by simp, by simp, List.Pairwise.nil⟩
theorem addF_full0 {e : En} (h0 : 0 < e.bytes.size) : addF 0 0 0 [] [] e = ⟨0, [], [], 0, [], [], 30⟩ := by
  unfold addF; rw [if_neg (by omega), if_pos (by omega)]
theorem linkK0 (l : Lk) : linkK [] [] l = [] := rfl

set_option maxHeartbeats 2000000 in
set_option maxHeartbeats 1000000 in
set_option maxRecDepth 100000 in
theorem none_law (pc : Int) (hpc : 0 ≤ pc ∧ pc < 4294967296) (pg : Int) (a : Int) (ha : 0 ≤ a ∧ a < 4294967296) :
    Spec Try.prog 14 [.int .u32 pc, .int .i64 pg, .int .u32 a] [] [] (X := Unit) (fun _ => True) (fun _ => .bool true) (fun _ => []) (fun _ => []) := by
  refine r_enter Try.func14 rfl Try.ntmps14 rfl fun w0 M H => ?_
  refine r_mpnil 101 mkU En.pc veEnt ?_
  refine r_mpnil 102 mkS kfS vfS ?_
  refine r_pgnil 1 ?_
  refine r_seq ?_
  refine r_region ?_
  refine r_p (p_assign rfl) rfl ?_
  refine r_nil ?_
  refine r_seq ?_
  refine r_region ?_
  refine r_call (xs := []) sanity_spec cb15 [] [] [] [] rfl rfl rfl rfl rfl rfl rfl rfl (fun _ _ => rfl) (fun _ _ _ => rfl) rfl (fun _ _ => ?_)
  refine r_p (p_assign rfl) rfl ?_
  refine r_nil ?_
  refine r_seq ?_
  refine r_region ?_
  refine r_p (p_assign rfl) rfl ?_
  refine r_nil ?_
  refine r_seq ?_
  refine r_region ?_
  refine r_p (p_build (parts := []) t84 pl84 rfl rfl) rfl ?_
  refine r_boxA rfl rfl fun b27 => ?_
  refine r_p (p_assign rfl) rfl ?_
  refine r_nil ?_
  refine r_seq ?_
  refine r_region ?_
  refine r_p (p_buildA (D := .bool) (parts := [(0, .const (.int .i64 1)), (1, .const (.int .i64 1)), (2, .const (.int .i64 1)), (3, .const (.int .i64 1))]) t38 t3 rfl rfl) rfl ?_
  refine r_call (xs := [.tmp 28, .const (.int .i64 1)]) (made_spec (f4 ⟨1, 1, 1, 1⟩) 1 (by omega)) cb18 [] [] [300] [] rfl rfl rfl rfl rfl rfl rfl rfl (fun _ _ => rfl) (fun _ _ _ => rfl) rfl (fun e he => ?_)
  obtain ⟨hepc, heb, hen, hest, hepg⟩ := he
  change e.pc = 4 * (1 % 12) at hepc
  change (e.bytes.size : Int) = 1 % (1 + 1) at hen
  change e.st = 1 % 4 at hest
  refine r_call (xs := [.tmp 29]) (entry_spec e (by omega)) cb20 [] [] [] [] rfl rfl rfl rfl rfl rfl rfl rfl (fun _ _ => rfl) (fun _ _ _ => rfl) rfl (fun ⟨ea, es⟩ hes => ?_)
  dsimp only at hes ⊢
  refine r_alloc t54 rfl rfl fun b10 => ?_
  refine r_store_all (k := 10) t54 rfl rfl rfl rfl rfl rfl ?_
  refine r_nil ?_
  refine r_seq ?_
  refine r_region ?_
  refine r_p (p_move rfl) rfl ?_
  refine r_p (p_loadA t54 rfl rfl rfl (g_all (k := 10) rfl)) rfl ?_
  refine r_call (xs := [.tmp 32, .tmp 33]) (add_nil (entE e ea es)) cb19 [] [] [] [] rfl rfl rfl rfl rfl rfl rfl rfl (fun _ _ => rfl) (fun _ _ _ => rfl) rfl (fun _ _ => ?_)
  refine r_p (p_move rfl) rfl ?_
  refine r_p (p_extract rfl rfl) rfl ?_
  refine r_p (p_extract rfl rfl) rfl ?_
  refine r_p (p_extract rfl rfl) rfl ?_
  refine r_p (p_extract rfl rfl) rfl ?_
  refine r_p (p_assign rfl) rfl ?_
  refine r_p (p_assign rfl) rfl ?_
  refine r_p (p_assign rfl) rfl ?_
  refine r_p (p_assign rfl) rfl ?_
  refine r_nil ?_
  refine r_seq ?_
  refine r_region ?_
  refine r_p (p_move rfl) rfl ?_
  refine r_p (p_loadA t54 rfl rfl rfl (g_all (k := 10) rfl)) rfl ?_
  refine r_call (xs := [.tmp 40, .tmp 41]) (add_spec b27 0 0 0 none none ci0 ps12_len (entE e ea es) (by simp only [entE]; omega)) cb19 [27, 101, 102] [] [27, 101, 102, 400, 401] [] rfl rfl rfl rfl rfl rfl rfl rfl (fun _ _ => rfl) (fun _ _ _ => rfl) rfl (fun ⟨va, vb, o⟩ _ => ?_)
  dsimp only
  have hE : (addF 0 0 0 [] [] (entE e ea es)) = ⟨0, [], [], 0, [], [], 30⟩ := addF_full0 (by simp only [entE]; omega)
  rw [hE]
  dsimp only
  refine r_p (p_move rfl) rfl ?_
  refine r_p (p_extract rfl rfl) rfl ?_
  refine r_p (p_extract rfl rfl) rfl ?_
  refine r_p (p_extract rfl rfl) rfl ?_
  refine r_p (p_extract rfl rfl) rfl ?_
  refine r_p (p_assign rfl) rfl ?_
  refine r_p (p_assign rfl) rfl ?_
  refine r_p (p_assign rfl) rfl ?_
  refine r_p (p_assign rfl) rfl ?_
  refine r_nil ?_
  refine r_seq ?_
  refine r_region ?_
  refine r_p (p_move rfl) rfl ?_
  refine r_p (p_move rfl) rfl ?_
  refine r_p (p_move rfl) rfl ?_
  refine r_p (p_build (parts := [(0, .tmp 48), (2, .tmp 49)]) t64 pl64 rfl rfl) rfl ?_
  refine r_call (xs := [.tmp 47, .tmp 50]) (link_nil ⟨pc, 0, pc⟩) cb40 [] [] [] [] rfl rfl rfl rfl rfl rfl rfl rfl (fun _ _ => rfl) (fun _ _ _ => rfl) rfl (fun _ _ => ?_)
  refine r_nil ?_
  refine r_seq ?_
  refine r_region ?_
  refine r_p (p_move rfl) rfl ?_
  refine r_p (p_move rfl) rfl ?_
  refine r_p (p_move rfl) rfl ?_
  refine r_p (p_build (parts := [(0, .tmp 53), (2, .tmp 54)]) t64 pl64 rfl rfl) rfl ?_
  refine r_call (xs := [.tmp 52, .tmp 55]) (link_spec b27 0 0 0 o none [] [] ⟨pc, 0, pc⟩) cb40 [27, 101, 102] [] [27, 101, 102] [] rfl rfl rfl rfl rfl rfl rfl rfl (fun _ _ => rfl) (fun _ _ _ => rfl) rfl (fun o2 _ => ?_)
  rw [linkK0]
  refine r_nil ?_
  refine r_seq ?_
  refine r_region ?_
  refine r_p (p_move rfl) rfl ?_
  refine r_p (p_move rfl) rfl ?_
  refine r_call (xs := [.tmp 58, .tmp 59]) (find_nil pc) cb21 [] [] [] [] rfl rfl rfl rfl rfl rfl rfl rfl (fun _ _ => rfl) (fun _ _ _ => rfl) rfl (fun _ _ => ?_)
  refine r_p (p_move rfl) rfl ?_
  refine r_p (p_extract rfl rfl) rfl ?_
  refine r_p (p_extract rfl rfl) rfl ?_
  refine r_alloc t54 rfl rfl fun b19 => ?_
  refine r_store_all (k := 19) t54 rfl rfl rfl rfl rfl rfl ?_
  refine r_p (p_assign rfl) rfl ?_
  refine r_nil ?_
  refine r_seq ?_
  refine r_region ?_
  refine r_p (p_move rfl) rfl ?_
  refine r_p (p_move rfl) rfl ?_
  refine r_call (xs := [.tmp 64, .tmp 65]) (at_none b27 0 0 0 o o2 [] List.Pairwise.nil (by simp) a rfl) cb29 [] [(true, 27), (true, 101)] [] [] rfl rfl rfl rfl rfl rfl rfl rfl (fun _ _ => rfl) (fun _ _ _ => rfl) rfl (fun _ _ => ?_)
  refine r_p (p_move rfl) rfl ?_
  refine r_p (p_extract rfl rfl) rfl ?_
  refine r_p (p_extract rfl rfl) rfl ?_
  refine r_alloc t54 rfl rfl fun b21 => ?_
  refine r_store_all (k := 21) t54 rfl rfl rfl rfl rfl rfl ?_
  refine r_p (p_assign rfl) rfl ?_
  refine r_nil ?_
  refine r_seq ?_
  refine r_region ?_
  refine r_p (p_move rfl) rfl ?_
  refine r_p (p_move rfl) rfl ?_
  refine r_call (xs := [.tmp 70, .tmp 71]) (at_nil a) cb29 [] [] [] [] rfl rfl rfl rfl rfl rfl rfl rfl (fun _ _ => rfl) (fun _ _ _ => rfl) rfl (fun _ _ => ?_)
  refine r_p (p_move rfl) rfl ?_
  refine r_p (p_extract rfl rfl) rfl ?_
  refine r_p (p_extract rfl rfl) rfl ?_
  refine r_alloc t54 rfl rfl fun b23 => ?_
  refine r_store_all (k := 23) t54 rfl rfl rfl rfl rfl rfl ?_
  refine r_p (p_assign rfl) rfl ?_
  refine r_nil ?_
  refine r_seq ?_
  refine r_region ?_
  refine r_p (p_move rfl) rfl ?_
  refine r_p (p_move rfl) rfl ?_
  refine r_split (t := 76) rfl (fun h1 => ?_) (fun h1 => False.elim (by simp [nilS, usedL] at h1))
  refine r_gyes rfl rfl ?_
  refine r_p (p_move rfl) rfl ?_
  refine r_gyes rfl rfl ?_
  refine r_p (p_bin rfl rfl b_eq) rfl ?_
  refine r_p (p_pick rfl rfl rfl (by first | exact pick_and | exact pick_or |  rfl)) rfl ?_
  refine r_p (p_move rfl) rfl ?_
  refine r_split (t := 80) rfl (fun h2 => ?_) (fun h2 => False.elim (by simp [nilS, usedL] at h2))
  refine r_gyes rfl rfl ?_
  refine r_p (p_move rfl) rfl ?_
  refine r_gyes rfl rfl ?_
  refine r_p (p_bin rfl rfl b_eq) rfl ?_
  refine r_p (p_pick rfl rfl rfl (by first | exact pick_and | exact pick_or |  rfl)) rfl ?_
  refine r_p (p_move rfl) rfl ?_
  refine r_split (t := 84) rfl (fun h3 => ?_) (fun h3 => False.elim (by simp [nilS, usedL] at h3))
  refine r_gyes rfl rfl ?_
  refine r_p (p_move rfl) rfl ?_
  refine r_gyes rfl rfl ?_
  refine r_p (p_not rfl) rfl ?_
  refine r_p (p_pick rfl rfl rfl (by first | exact pick_and | exact pick_or |  rfl)) rfl ?_
  refine r_p (p_move rfl) rfl ?_
  refine r_split (t := 88) rfl (fun h4 => ?_) (fun h4 => False.elim (by simp [nilS, usedL] at h4))
  refine r_gyes rfl rfl ?_
  refine r_p (p_move rfl) rfl ?_
  refine r_gyes rfl rfl ?_
  refine r_p (p_not rfl) rfl ?_
  refine r_p (p_pick rfl rfl rfl (by first | exact pick_and | exact pick_or |  rfl)) rfl ?_
  refine r_p (p_move rfl) rfl ?_
  refine r_split (t := 92) rfl (fun h5 => ?_) (fun h5 => False.elim (by simp [nilS, usedL] at h5))
  refine r_gyes rfl rfl ?_
  refine r_p (p_move rfl) rfl ?_
  refine r_gyes rfl rfl ?_
  refine r_p (p_not rfl) rfl ?_
  refine r_p (p_pick rfl rfl rfl (by first | exact pick_and | exact pick_or |  rfl)) rfl ?_
  refine r_p (p_move rfl) rfl ?_
  refine r_split (t := 96) rfl (fun h6 => ?_) (fun h6 => False.elim (by simp [nilS, usedL] at h6))
  refine r_gyes rfl rfl ?_
  refine r_p (p_move rfl) rfl ?_
  refine r_gyes rfl rfl ?_
  refine r_p (p_move rfl) rfl ?_
  refine r_gyes rfl rfl ?_
  refine r_call (xs := [.tmp 97, .tmp 98]) (on_nil pg) cb38 [] [] [99] [] rfl rfl rfl rfl rfl rfl rfl rfl (fun _ _ => rfl) (fun _ _ _ => rfl) rfl (fun v99 _ => ?_)
  refine r_gyes rfl rfl ?_
  refine r_p (p_len_sl Try.underlying44 rfl (hs_own (k := 99) rfl)) rfl ?_
  refine r_gyes rfl rfl ?_
  refine r_p (p_bin rfl rfl b_eq) rfl ?_
  refine r_p (p_pick rfl rfl rfl (by first | exact pick_and | exact pick_or |  rfl)) rfl ?_
  refine r_p (p_move rfl) rfl ?_
  refine r_split (t := 103) rfl (fun h7 => ?_) (fun h7 => False.elim (by simp [nilS, usedL] at h7))
  refine r_gyes rfl rfl ?_
  refine r_p (p_move rfl) rfl ?_
  refine r_gyes rfl rfl ?_
  refine r_p (p_move rfl) rfl ?_
  refine r_gyes rfl rfl ?_
  refine r_call (xs := [.tmp 104, .tmp 105]) (on_spec b27 0 0 0 o o2 [] [] pg List.Pairwise.nil (by simp) (by simp)) cb38 [] [(true, 27), (true, 101), (false, 1)] [106] [] rfl rfl rfl rfl rfl rfl rfl rfl (fun _ _ => rfl) (fun _ _ _ => rfl) rfl (fun ⟨v106, ys⟩ hys => ?_)
  dsimp only at hys ⊢
  obtain rfl : ys = [] := List.perm_nil.1 hys.1
  refine r_gyes rfl rfl ?_
  refine r_p (p_len_sl Try.underlying44 rfl (hs_own (k := 106) rfl)) rfl ?_
  refine r_gyes rfl rfl ?_
  refine r_p (p_bin rfl rfl b_eq) rfl ?_
  refine r_p (p_pick rfl rfl rfl (by first | exact pick_and | exact pick_or |  rfl)) rfl ?_
  refine r_p (p_move rfl) rfl ?_
  refine r_split (t := 110) rfl (fun h8 => ?_) (fun h8 => False.elim (by simp [nilS, usedL] at h8))
  refine r_gyes rfl rfl ?_
  refine r_p (p_move rfl) rfl ?_
  refine r_gyes rfl rfl ?_
  refine r_p (p_move rfl) rfl ?_
  refine r_gyes rfl rfl ?_
  refine r_call (xs := [.tmp 111, .tmp 112]) (remove_nil pc) cb35 [] [] [] [] rfl rfl rfl rfl rfl rfl rfl rfl (fun _ _ => rfl) (fun _ _ _ => rfl) rfl (fun _ _ => ?_)
  refine r_gyes rfl rfl ?_
  refine r_p (p_len_sv Try.underlying40 rfl) rfl ?_
  refine r_gyes rfl rfl ?_
  refine r_p (p_bin rfl rfl b_eq) rfl ?_
  refine r_p (p_pick rfl rfl rfl (by first | exact pick_and | exact pick_or |  rfl)) rfl ?_
  refine r_p (p_move rfl) rfl ?_
  refine r_split (t := 117) rfl (fun h9 => ?_) (fun h9 => False.elim (by simp [nilS, usedL] at h9))
  refine r_gyes rfl rfl ?_
  refine r_p (p_move rfl) rfl ?_
  refine r_gyes rfl rfl ?_
  refine r_p (p_move rfl) rfl ?_
  refine r_gyes rfl rfl ?_
  refine r_call (xs := [.tmp 118, .tmp 119]) (remove_specG b27 0 0 0 o o2 ci0 ps12_len pc) cb35 [27, 101, 102] [] [27, 101, 102, 120] [] rfl rfl rfl rfl rfl rfl rfl rfl (fun _ _ => rfl) (fun _ _ _ => rfl) rfl (fun v120 _ => ?_)
  refine r_gyes rfl rfl ?_
  refine r_p (p_len_sl Try.underlying40 rfl (hs_own (k := 120) rfl)) rfl ?_
  refine r_gyes rfl rfl ?_
  refine r_p (p_bin rfl rfl b_eq) rfl ?_
  refine r_p (p_pick rfl rfl rfl (by first | exact pick_and | exact pick_or |  rfl)) rfl ?_
  refine r_p (p_move rfl) rfl ?_
  refine r_split (t := 124) rfl (fun h10 => ?_) (fun h10 => False.elim (by simp [nilS, usedL] at h10))
  refine r_gyes rfl rfl ?_
  refine r_p (p_move rfl) rfl ?_
  refine r_gyes rfl rfl ?_
  refine r_call (xs := [.tmp 125]) all_nil cb26 [] [] [] [] rfl rfl rfl rfl rfl rfl rfl rfl (fun _ _ => rfl) (fun _ _ _ => rfl) rfl (fun _ _ => ?_)
  refine r_gyes rfl rfl ?_
  refine r_p (p_len_sv Try.underlying39 rfl) rfl ?_
  refine r_gyes rfl rfl ?_
  refine r_p (p_bin rfl rfl b_eq) rfl ?_
  refine r_p (p_pick rfl rfl rfl (by first | exact pick_and | exact pick_or |  rfl)) rfl ?_
  refine r_p (p_move rfl) rfl ?_
  refine r_split (t := 130) rfl (fun h11 => ?_) (fun h11 => False.elim (by simp [nilS, usedL] at h11))
  refine r_gyes rfl rfl ?_
  refine r_p (p_move rfl) rfl ?_
  refine r_gyes rfl rfl ?_
  refine r_call (xs := [.tmp 131]) links_nil cb24 [] [] [] [] rfl rfl rfl rfl rfl rfl rfl rfl (fun _ _ => rfl) (fun _ _ _ => rfl) rfl (fun _ _ => ?_)
  refine r_gyes rfl rfl ?_
  refine r_p (p_len_sv Try.underlying40 rfl) rfl ?_
  refine r_gyes rfl rfl ?_
  refine r_p (p_bin rfl rfl b_eq) rfl ?_
  refine r_p (p_pick rfl rfl rfl (by first | exact pick_and | exact pick_or |  rfl)) rfl ?_
  refine r_p (p_move rfl) rfl ?_
  refine r_split (t := 136) rfl (fun h12 => ?_) (fun h12 => False.elim (by simp [nilS, usedL] at h12))
  refine r_gyes rfl rfl ?_
  refine r_p (p_move rfl) rfl ?_
  refine r_gyes rfl rfl ?_
  refine r_call (xs := [.tmp 137]) used_nil cb31 [] [] [] [] rfl rfl rfl rfl rfl rfl rfl rfl (fun _ _ => rfl) (fun _ _ _ => rfl) rfl (fun _ _ => ?_)
  refine r_gyes rfl rfl ?_
  refine r_p (p_bin rfl rfl b_eq) rfl ?_
  refine r_p (p_pick rfl rfl rfl (by first | exact pick_and | exact pick_or |  rfl)) rfl ?_
  refine r_p (p_move rfl) rfl ?_
  refine r_split (t := 141) rfl (fun h13 => ?_) (fun h13 => False.elim (by simp [nilS, usedL] at h13))
  refine r_gyes rfl rfl ?_
  refine r_p (p_move rfl) rfl ?_
  refine r_gyes rfl rfl ?_
  refine r_call (xs := [.tmp 142]) (used_spec b27 0 0 0 o o2 [] List.Pairwise.nil (by simp) (by simp)) cb31 [] [(true, 27), (true, 101)] [] [] rfl rfl rfl rfl rfl rfl rfl rfl (fun _ _ => rfl) (fun _ _ _ => rfl) rfl (fun _ _ => ?_)
  refine r_gyes rfl rfl ?_
  refine r_p (p_bin rfl rfl b_eq) rfl ?_
  refine r_p (p_pick rfl rfl rfl (by first | exact pick_and | exact pick_or |  rfl)) rfl ?_
  refine r_p (p_assign rfl) rfl ?_
  refine r_nil ?_
  refine r_cret ?_
  refine r_ret () trivial rfl (rs1 (rv_tmp rfl)) (congrArg Value.bool (by simp [usedL])) [] [] rfl rfl rfl

end Go.Proofs.Ytbkonlkffajhkaa
