/-
  CacheEnds walks. No condition.
-/
import Derived.Test.YtbkonlkffajhkaaI5
namespace Go.Proofs.Ytbkonlkffajhkaa
set_option linter.unusedSimpArgs false
set_option linter.unusedVariables false
open Go.RowKit

theorem addF_fit {base size cur : Int} {L : List En} {K : List Lk} {e : En} (h0 : 0 < e.bytes.size) (h1 : (e.bytes.size : Int) ≤ size) : (addF base size cur L K e).err = 0 ∧ (addF base size cur L K e).b = base + curN size cur e.bytes.size ∧ putE base (curN size cur e.bytes.size) e ∈ (addF base size cur L K e).L := by
  unfold addF
  rw [if_neg (by omega), if_neg (by omega)]
  exact ⟨rfl, rfl, (insD_perm _ _ _).mem_iff.2 (List.mem_cons_self ..)⟩
theorem addF_empty {base size cur : Int} {L : List En} {K : List Lk} {e : En} (h0 : e.bytes.size = 0) : addF base size cur L K e = ⟨cur, L, K, 0, [], [], 1⟩ := by
  unfold addF; rw [if_pos h0]
theorem addF_full {base size cur : Int} {L : List En} {K : List Lk} {e : En} (h0 : 0 < e.bytes.size) (h1 : size < (e.bytes.size : Int)) : addF base size cur L K e = ⟨cur, L, K, 0, [], [], 30⟩ := by
  unfold addF; rw [if_neg (by omega), if_pos h1]
theorem b_empty (s : ByteArray) : (s == ByteArray.mk #[]) = decide (s.size = 0) := by
  obtain ⟨⟨x⟩⟩ := s
  show ((⟨x⟩ : Array UInt8) == ⟨[]⟩) = decide (x.length = 0)
  cases x with
  | nil => rfl
  | cons a r => simp

set_option maxHeartbeats 1000000 in
set_option maxRecDepth 100000 in
theorem ends_law (a sz c : Int) :
    Spec Try.prog 10 [.int .i64 a, .int .i64 sz, .int .i64 c] [] [] (X := Unit) (fun _ => True) (fun _ => .bool true) (fun _ => []) (fun _ => []) := by
  refine r_enter Try.func10 rfl Try.ntmps10 rfl fun w0 M H => ?_
  refine r_seq ?_
  refine r_region ?_
  refine r_p (p_assign rfl) rfl ?_
  refine r_nil ?_
  refine r_seq ?_
  refine r_region ?_
  refine r_call (xs := []) sanity_spec cb15 [] [] [] [] rfl rfl rfl rfl rfl rfl rfl rfl (fun _ _ => rfl) (fun _ _ _ => rfl) rfl (fun _ _ => ?_)
  refine r_p (p_assign rfl) rfl ?_
  refine r_nil ?_
  refine r_seq ?_
  refine r_region ?_
  refine r_p (p_move rfl) rfl ?_
  refine r_call (xs := [.tmp 26, .const (.int .i64 100)]) (mod_spec a 100 (by omega) (by omega)) cb17 [] [] [] [] rfl rfl rfl rfl rfl rfl rfl rfl (fun _ _ => rfl) (fun _ _ _ => rfl) rfl (fun _ _ => ?_)
  have h100 : 0 ≤ a % 100 ∧ a % 100 < 100 := by omega
  refine r_p (p_assign rfl) rfl ?_
  refine r_nil ?_
  refine r_seq ?_
  refine r_region ?_
  refine r_p (p_move rfl) rfl ?_
  refine r_p (p_bin rfl rfl (b_sub (by first | exact w_i64 (by omega) (by omega) | rfl))) rfl ?_
  refine r_p (p_conv Try.underlying3 Try.underlying30 rfl (by first | exact w_u32 (by omega) (by omega) | rfl)) rfl ?_
  refine r_p (p_assign rfl) rfl ?_
  refine r_nil ?_
  refine r_seq ?_
  refine r_region ?_
  refine r_p (p_move rfl) rfl ?_
  refine r_p (p_move rfl) rfl ?_
  refine r_call (xs := [.tmp 31, .tmp 32]) (rnew_spec (4294967295 - a % 100) sz (by omega)) cb32 [] [] [503, 504, 505] [] rfl rfl rfl rfl rfl rfl rfl rfl (fun _ _ => rfl) (fun _ _ _ => rfl) rfl (fun r _ => ?_)
  refine r_p (p_assign rfl) rfl ?_
  refine r_nil ?_
  refine r_seq ?_
  refine r_region ?_
  refine r_p (p_move rfl) rfl ?_
  refine r_p (p_move rfl) rfl ?_
  refine r_call (xs := [.tmp 34, .tmp 35]) (new_spec (4294967295 - a % 100) sz (by omega)) cb22 [] [] [500, 501, 502] [] rfl rfl rfl rfl rfl rfl rfl rfl (fun _ _ => rfl) (fun _ _ _ => rfl) rfl (fun C _ => ?_)
  refine r_p (p_assign rfl) rfl ?_
  refine r_nil ?_
  refine r_seq ?_
  refine r_region ?_
  refine r_call (xs := [.const (.int .u32 0), .const (.int .i64 (-1))]) (new_spec 0 (-1) (by omega)) cb22 [] [] [510, 511, 512] [] rfl rfl rfl rfl rfl rfl rfl rfl (fun _ _ => rfl) (fun _ _ _ => rfl) rfl (fun D _ => ?_)
  refine r_p (p_assign rfl) rfl ?_
  refine r_nil ?_
  refine r_seq ?_
  refine r_seq ?_
  refine r_region ?_
  refine r_p (p_move rfl) rfl ?_
  refine r_p (p_bin rfl rfl (b_eqPn Try.underlying25)) rfl ?_
  refine r_p (p_move rfl) rfl ?_
  refine r_gp [] rfl rfl trivial (fun hg1 => p_move rfl) rfl ?_
  refine r_gp [(41, _)] rfl rfl ⟨rfl, trivial⟩ (fun hg2 => p_bin rfl rfl (b_eqPn Try.underlying25)) rfl ?_
  refine r_p (p_pick rfl rfl rfl (by first | exact pick_and | exact pick_or |  rfl)) rfl ?_
  refine r_nil ?_
  refine r_cond rfl (fun h3 => ?_) (fun h3 => ?_)
  · exact absurd h3 (by simp)
  · (try simp only [decide_eq_true_eq, decide_eq_false_iff_not, Bool.and_eq_true, Bool.or_eq_true, Bool.and_eq_false_iff, Bool.or_eq_false_iff, Bool.not_eq_true, Bool.not_eq_false, Bool.not_eq_true', Bool.not_eq_false', Bool.not_not, bne_iff_ne, beq_iff_eq] at h3)
    refine r_skip ?_
    refine r_seq ?_
    refine r_region ?_
    refine r_p (p_move rfl) rfl ?_
    refine r_call (xs := [.tmp 44, .const (.int .i64 30)]) (mod_spec c 30 (by omega) (by omega)) cb17 [] [] [] [] rfl rfl rfl rfl rfl rfl rfl rfl (fun _ _ => rfl) (fun _ _ _ => rfl) rfl (fun _ _ => ?_)
    have h30 : 0 ≤ c % 30 ∧ c % 30 < 30 := by omega
    refine r_p (p_bin rfl rfl (b_add (by first | exact w_i64 (by omega) (by omega) | rfl))) rfl ?_
    refine r_p (p_assign rfl) rfl ?_
    refine r_nil ?_
    refine r_seq ?_
    refine r_seq ?_
    refine r_region ?_
    refine r_p (p_assign rfl) rfl ?_
    refine r_nil ?_
    refine r_block ?_
    refine r_loop (X := Nat × Int × List En × List Lk × Option Nat × SV × SV) (fun x => x.1 ≤ 5 ∧ CInv PS12 (4294967295 - a % 100) (sizeN (4294967295 - a % 100) sz) x.2.1 x.2.2.1 x.2.2.2.1) (fun x => [(7, .bool true), (11, .pointer (some ⟨C, 0, none⟩)), (10, .pointer (some ⟨r, 0, none⟩)), (12, .pointer (some ⟨D, 0, none⟩)), (13, .int .i64 (1 + c % 30)), (14, .int .i64 (x.1 : Int))]) (fun x => [(500, row C 84 (cC (4294967295 - a % 100) (sizeN (4294967295 - a % 100) sz) x.2.1 x.2.2.2.2.1 none)), (501, mpB x.2.2.2.2.1 x.2.2.1), (502, mpL none x.2.2.2.1), (503, row r 34 (cR (4294967295 - a % 100) (sizeN (4294967295 - a % 100) sz) x.2.1 x.2.2.2.2.2.1 x.2.2.2.2.2.2)), (504, own 36 5 eR (sv x.2.2.2.2.2.1) x.2.2.1), (505, own 100 3 eL (sv x.2.2.2.2.2.2) x.2.2.2.1), (510, row D 84 (cC 0 (sizeN 0 (-1)) 0 none none)), (511, mpB none []), (512, mpL none [])]) (fun x => []) (fun x => 5 - x.1) (0, 0, [], [], none, nilS, nilS) ⟨Nat.zero_le _, CInv.new (by omega)⟩ rfl rfl rfl (fun ⟨k, cur, L, K, ob, vL, vC⟩ hx0 => ?_)
    obtain ⟨hk0, hi⟩ := hx0
    dsimp only at hk0 hi ⊢
    have hlen := hi.hlen ps12_len
    have hlenK := hi.hlenK ps12_len
    refine r_seq ?_
    refine r_seq ?_
    refine r_region ?_
    refine r_p (p_move rfl) rfl ?_
    refine r_p (p_bin rfl rfl b_lt) rfl ?_
    refine r_nil ?_
    refine r_cond rfl (fun h4 => ?_) (fun h4 => ?_)
    · (try simp only [decide_eq_true_eq, decide_eq_false_iff_not, Bool.and_eq_true, Bool.or_eq_true, Bool.and_eq_false_iff, Bool.or_eq_false_iff, Bool.not_eq_true, Bool.not_eq_false, Bool.not_eq_true', Bool.not_eq_false', Bool.not_not, bne_iff_ne, beq_iff_eq] at h4)
      have hk : k < 5 := by omega
      refine r_skip ?_
      refine r_seq ?_
      refine r_block ?_
      refine r_seq ?_
      refine r_region ?_
      refine r_p (p_move rfl) rfl ?_
      refine r_p (p_move rfl) rfl ?_
      refine r_p (p_buildA (D := .bool) (parts := [(0, .tmp 51), (1, .tmp 52), (2, .const (.int .i64 0)), (3, .const (.int .i64 0))]) t38 t3 rfl rfl) rfl ?_
      refine r_call (xs := [.tmp 53, .const (.int .i64 30)]) (made_spec (f4 ⟨(k : Int), (1 + c % 30), 0, 0⟩) 30 (by omega)) cb18 [] [] [300] [] rfl rfl rfl rfl rfl rfl rfl rfl (fun _ _ => rfl) (fun _ _ _ => rfl) rfl (fun e he => ?_)
      obtain ⟨hepc, heb, hen, hest, hepg⟩ := he
      change e.pc = 4 * ((k : Int) % 12) at hepc
      change (e.bytes.size : Int) = (1 + c % 30) % (30 + 1) at hen
      change e.st = 0 % 4 at hest
      have hen0 : (e.bytes.size : Int) = (1 + c % 30) := by omega
      refine r_alloc t36 rfl rfl fun b15 => ?_
      refine r_store_all (k := 15) t36 rfl rfl rfl rfl rfl rfl ?_
      refine r_nil ?_
      refine r_seq ?_
      refine r_region ?_
      refine r_p (p_move rfl) rfl ?_
      refine r_p (p_loadA t36 rfl rfl rfl (g_all (k := 15) rfl)) rfl ?_
      refine r_call (xs := [.tmp 57]) (entry_spec e (by omega)) cb20 [] [] [] [] rfl rfl rfl rfl rfl rfl rfl rfl (fun _ _ => rfl) (fun _ _ _ => rfl) rfl (fun ⟨ea, es⟩ hes => ?_)
      dsimp only at hes ⊢
      refine r_call (xs := [.tmp 56, .tmp 58]) (add_spec C (4294967295 - a % 100) (sizeN (4294967295 - a % 100) sz) cur ob none hi ps12_len (entE e ea es) (by simp only [entE]; omega)) cb19 [500, 501, 502] [] [500, 501, 502, 400, 401] [] rfl rfl rfl rfl rfl rfl rfl rfl (fun _ _ => rfl) (fun _ _ _ => rfl) rfl (fun ⟨va, vb, o⟩ _ => ?_)
      dsimp only
      have hnew := hi.add (e := (entE e ea es)) (by simp only [entE, hepc]; exact ps12_mem _) (by simp only [entE]; omega) (by simp only [entE]; exact hes) rfl (by simp only [entE]; exact hepg) (by simp only [entE]; omega)
      refine r_p (p_move rfl) rfl ?_
      refine r_p (p_extract rfl rfl) rfl ?_
      refine r_p (p_extract rfl rfl) rfl ?_
      refine r_p (p_extract rfl rfl) rfl ?_
      refine r_p (p_extract rfl rfl) rfl ?_
      refine r_p (p_assign rfl) rfl ?_
      refine r_p (p_assign rfl) rfl ?_
      refine r_p (p_assign rfl) rfl ?_
      refine r_p (p_assign rfl) rfl ?_
      refine r_nil ?_
      refine r_seq ?_
      refine r_region ?_
      refine r_p (p_move rfl) rfl ?_
      refine r_p (p_loadA t36 rfl rfl rfl (g_all (k := 15) rfl)) rfl ?_
      refine r_call (xs := [.tmp 64, .tmp 65]) (radd_spec r (4294967295 - a % 100) (sizeN (4294967295 - a % 100) sz) cur vL vC hi ps12_len (entE e ea es)) cb33 [503, 504, 505] [] [503, 504, 505, 402, 403] [] rfl rfl rfl rfl rfl rfl rfl rfl (fun _ _ => rfl) (fun _ _ _ => rfl) rfl (fun ⟨wa, wb, wl, wk⟩ _ => ?_)
      dsimp only
      refine r_alloc t74 rfl rfl fun b20 => ?_
      refine r_store_all (k := 20) t74 rfl rfl rfl rfl rfl rfl ?_
      refine r_nil ?_
      refine r_seq ?_
      refine r_region ?_
      refine r_p (p_move rfl) rfl ?_
      refine r_p (p_field0 fo74_0 rfl) rfl ?_
      refine r_p (p_load1 t30 rfl rfl (g_row1 (k := 20) rfl rfl)) rfl ?_
      refine r_p (p_bin rfl rfl b_ne) rfl ?_
      refine r_p (p_move rfl) rfl ?_
      refine r_split (t := 71) rfl (fun h5 => False.elim (by simp at h5)) (fun h5 => ?_)
      refine r_gyes rfl rfl ?_
      refine r_p (p_move rfl) rfl ?_
      refine r_gyes rfl rfl ?_
      refine r_p (p_field0 fo74_3 rfl) rfl ?_
      refine r_gyes rfl rfl ?_
      refine r_p (p_load1 t41 rfl rfl (g_row1 (k := 20) rfl rfl)) rfl ?_
      refine r_gyes rfl rfl ?_
      refine r_p (p_bin rfl rfl b_ne) rfl ?_
      refine r_p (p_pick rfl rfl rfl (by first | exact pick_and | exact pick_or |  rfl)) rfl ?_
      refine r_nil ?_
      refine r_cond rfl (fun h6 => ?_) (fun h6 => ?_)
      · exact absurd h6 (by simp)
      · (try simp only [decide_eq_true_eq, decide_eq_false_iff_not, Bool.and_eq_true, Bool.or_eq_true, Bool.and_eq_false_iff, Bool.or_eq_false_iff, Bool.not_eq_true, Bool.not_eq_false, Bool.not_eq_true', Bool.not_eq_false', Bool.not_not, bne_iff_ne, beq_iff_eq] at h6)
        refine r_skip ?_
        refine r_region ?_
        refine r_p (p_move rfl) rfl ?_
        refine r_p (p_bin rfl rfl (b_add (by first | exact w_i64 (by omega) (by omega) | rfl))) rfl ?_
        refine r_p (p_assign rfl) rfl ?_
        refine r_nil ?_
        refine r_here (k + 1, (addF (4294967295 - a % 100) (sizeN (4294967295 - a % 100) sz) cur L K (entE e ea es)).cur, (addF (4294967295 - a % 100) (sizeN (4294967295 - a % 100) sz) cur L K (entE e ea es)).L, (addF (4294967295 - a % 100) (sizeN (4294967295 - a % 100) sz) cur L K (entE e ea es)).K, o, wl, wk) ⟨⟨by dsimp only; omega, hnew⟩, by dsimp only; omega⟩ rfl rfl rfl
    · (try simp only [decide_eq_true_eq, decide_eq_false_iff_not, Bool.and_eq_true, Bool.or_eq_true, Bool.and_eq_false_iff, Bool.or_eq_false_iff, Bool.not_eq_true, Bool.not_eq_false, Bool.not_eq_true', Bool.not_eq_false', Bool.not_not, bne_iff_ne, beq_iff_eq] at h4)
      refine r_exit ?_
      refine r_seq ?_
      refine r_region ?_
      refine r_p (p_move rfl) rfl ?_
      refine r_p (p_buildA (D := .bool) (parts := [(0, .const (.int .i64 0)), (1, .const (.int .i64 1)), (2, .const (.int .i64 0)), (3, .const (.int .i64 0))]) t38 t3 rfl rfl) rfl ?_
      refine r_call (xs := [.tmp 79, .const (.int .i64 1)]) (made_spec (f4 ⟨0, 1, 0, 0⟩) 1 (by omega)) cb18 [] [] [301] [] rfl rfl rfl rfl rfl rfl rfl rfl (fun _ _ => rfl) (fun _ _ _ => rfl) rfl (fun e he => ?_)
      obtain ⟨hepc, heb, hen, hest, hepg⟩ := he
      change e.pc = 4 * (0 % 12) at hepc
      change (e.bytes.size : Int) = 1 % (1 + 1) at hen
      change e.st = 0 % 4 at hest
      have hen0 : (e.bytes.size : Int) = 1 := by omega
      refine r_call (xs := [.tmp 80]) (entry_spec e (by omega)) cb20 [] [] [] [] rfl rfl rfl rfl rfl rfl rfl rfl (fun _ _ => rfl) (fun _ _ _ => rfl) rfl (fun ⟨ea, es⟩ hes => ?_)
      dsimp only at hes ⊢
      refine r_call (xs := [.tmp 78, .tmp 81]) (add_spec D 0 (sizeN 0 (-1)) 0 none none (CInv.new (PS := PS12) (base := 0) (size := -1) (by omega)) ps12_len (entE e ea es) (by simp only [entE]; omega)) cb19 [510, 511, 512] [] [510, 511, 512, 404, 405] [] rfl rfl rfl rfl rfl rfl rfl rfl (fun _ _ => rfl) (fun _ _ _ => rfl) rfl (fun ⟨va, vb, o⟩ _ => ?_)
      dsimp only
      have hE : (addF 0 (sizeN 0 (-1)) 0 [] [] (entE e ea es)) = ⟨0, [], [], 0, [], [], 30⟩ := addF_full (by simp only [entE]; omega) (by simp only [entE]; unfold sizeN; omega)
      rw [hE]
      dsimp only
      refine r_p (p_move rfl) rfl ?_
      refine r_p (p_extract rfl rfl) rfl ?_
      refine r_p (p_extract rfl rfl) rfl ?_
      refine r_p (p_extract rfl rfl) rfl ?_
      refine r_p (p_extract rfl rfl) rfl ?_
      refine r_p (p_assign rfl) rfl ?_
      refine r_p (p_assign rfl) rfl ?_
      refine r_p (p_assign rfl) rfl ?_
      refine r_p (p_assign rfl) rfl ?_
      refine r_nil ?_
      refine r_seq ?_
      refine r_region ?_
      refine r_p (p_move rfl) rfl ?_
      refine r_p (p_move rfl) rfl ?_
      refine r_split (t := 88) rfl (fun h7 => ?_) (fun h7 => False.elim (by simp at h7))
      refine r_gyes rfl rfl ?_
      refine r_p (p_move rfl) rfl ?_
      refine r_gyes rfl rfl ?_
      refine r_call (xs := [.tmp 89]) (used_spec C (4294967295 - a % 100) (sizeN (4294967295 - a % 100) sz) cur ob none L hi.hL (by omega) hi.sizes) cb31 [] [(true, 500), (true, 501)] [] [] rfl rfl rfl rfl rfl rfl rfl rfl (fun _ _ => rfl) (fun _ _ _ => rfl) rfl (fun _ _ => ?_)
      refine r_gyes rfl rfl ?_
      refine r_p (p_move rfl) rfl ?_
      refine r_gyes rfl rfl ?_
      refine r_call (xs := [.tmp 91]) (rused_spec r (4294967295 - a % 100) (sizeN (4294967295 - a % 100) sz) cur vL vC L (by omega) hi.sizes) cb34 [] [(true, 503), (true, 504)] [] [] rfl rfl rfl rfl rfl rfl rfl rfl (fun _ _ => rfl) (fun _ _ _ => rfl) rfl (fun _ _ => ?_)
      refine r_gyes rfl rfl ?_
      refine r_p (p_bin rfl rfl b_eq) rfl ?_
      refine r_p (p_pick rfl rfl rfl (by first | exact pick_and | exact pick_or |  rfl)) rfl ?_
      refine r_p (p_move rfl) rfl ?_
      refine r_split (t := 95) rfl (fun h8 => ?_) (fun h8 => False.elim (by simp at h8))
      refine r_gyes rfl rfl ?_
      refine r_p (p_move rfl) rfl ?_
      refine r_gyes rfl rfl ?_
      refine r_p (p_bin rfl rfl b_eq) rfl ?_
      refine r_p (p_pick rfl rfl rfl (by first | exact pick_and | exact pick_or |  rfl)) rfl ?_
      refine r_p (p_assign rfl) rfl ?_
      refine r_nil ?_
      refine r_cret ?_
      refine r_ret () trivial rfl (rs1 (rv_tmp rfl)) (congrArg Value.bool (by simp)) [] [] rfl rfl rfl

end Go.Proofs.Ytbkonlkffajhkaa
