/-
  Making blocks, and comparing them. Conditions: numbers are small.
-/
import Derived.Test.YtbkonlkffajhkaaR4
namespace Go.Proofs.Ytbkonlkffajhkaa
set_option linter.unusedSimpArgs false
set_option linter.unusedVariables false
open Go.RowKit

def eSite : Int → List Value := fun i => [.int .i64 i, .int .i64 4, .int .i64 0, .int .u32 0, .int .u32 0, .int .i64 0]
def sitesL (k : Nat) : List Int := (List.range k).map fun (i : Nat) => (i : Int)
theorem sitesL_succ (k : Nat) : sitesL (k + 1) = sitesL k ++ [(k : Int)] := by simp [sitesL, List.range_succ]
def entE (x : En) (a s : SV) : En := { x with at_ := a, sites := s, al := x.st, sum := 0 }
theorem own_n {α : Type} {T : TypeId} {s : Nat} {enc : α → List Value} {v : SV} {l : List α} (w : World) (G : Nat → Prop) (h : (own T s enc (sv v) l).pred w G) : v.n = l.length := by
  rcases h.2.2 with ⟨hv, hn⟩ | ⟨g, cap, cur, hv, _⟩
  · simp [sv] at hv
    omega
  · simp [sv] at hv
    exact hv.2.1
/-- A block as the cache keeps it. -/
def SameOk (x : En) : Prop := (x.sites.n : Int) = x.st ∧ x.al = x.st ∧ x.sum = crc x.bytes ∧ x.bytes.size ≤ 1000000 ∧ x.pg.length ≤ 4
abbrev pgP (S : List En) : Asn := pgA En.pages En.pg S
theorem m4 (n : Int) : 0 ≤ n % 4 ∧ n % 4 < 4 := by omega
theorem m16 (n : Int) : 0 ≤ n % 16 ∧ n % 16 < 16 := by omega
theorem ba_beq (s : ByteArray) : (s == s) = true := by rw [beq_toListBytes]; simp
theorem b_neL (x : Lk) : BinRun Try.prog .neq 64 (veL x) (veL x) (.bool false) := fun a b w => by
  have hq : Try.prog.eqGuardType Try.prog.depth 64 = false := by kernel_rfl
  have hs : Try.prog.stoodInHeld 64 = false := by kernel_rfl
  have hf := t64.und
  have hF : Try.prog.underlying 64 = some (.struct (Try.prog.fieldsOf 64)) := by simp only [Program.fieldsOf, hf]
  have i0 := run_part1 (o := 0) (cs := #[.int .u32 x.f, .int .i64 x.s, .int .u32 x.t]) t30 rfl rfl w
  have i1 := run_part1 (o := 1) (cs := #[.int .u32 x.f, .int .i64 x.s, .int .u32 x.t]) t3 rfl rfl w
  have i2 := run_part1 (o := 2) (cs := #[.int .u32 x.f, .int .i64 x.s, .int .u32 x.t]) t30 rfl rfl w
  have q (n : Int) := run_equalIn_int (P := Try.prog) w 9998 3 .i64 .i64 n n t3.und
  have q2 (n : Int) := run_equalIn_int (P := Try.prog) w 9998 30 .u32 .u32 n n t30.und
  simp only [veL, eL, Sem.run_bind, run_eqGuard_agg w .neq 64 a b _ _ hq, Result.andThen_ok, run_neq_struct]
  rw [run_equalIn_struct w 9999 _ _ _ hF hs]
  simp [Program.fieldsOf, hf, Op.eqFields, i0, i1, i2, q, q2, Sem.run_bind]

set_option maxHeartbeats 2000000 in
set_option maxRecDepth 100000 in
theorem made_spec (q : Nat → Int) (most : Int) (hm : 0 ≤ most ∧ most ≤ 1000) :
    Spec Try.prog 18 [vq q, .int .i64 most] [] [] (X := En) (fun x => x.pc = (4 * (q 0 % 12)) ∧ x.base = 0 ∧ (x.bytes.size : Int) = (q 1 % (most + 1)) ∧ x.st = (q 2 % 4) ∧ x.pg.length ≤ 4) (fun x => veR x) (fun x => [own 3 1 eI (sv x.pages) x.pg]) (fun _ => []) := by
  refine r_enter Try.func18 rfl Try.ntmps18 rfl fun w0 M H => ?_
  have h12a := m12 (q 0)
  have h4 := m4 (q 2)
  have h16 := m16 (q 3)
  have hnb : 0 ≤ (q 1 % (most + 1)) ∧ (q 1 % (most + 1)) ≤ most := by
    have h1 := Int.emod_nonneg (q 1) (show most + 1 ≠ 0 by omega)
    have h2 := Int.emod_lt_of_pos (q 1) (show 0 < most + 1 by omega)
    omega
  refine r_nilown 300 (S := 3) (s := 1) (enc := eI) ?_
  refine r_seq ?_
  refine r_region ?_
  refine r_box_arr rfl rfl fun b2 => ?_
  refine r_alloc t36 rfl rfl fun b4 => ?_
  refine r_nil ?_
  refine r_seq_cut (X := Nat) (fun _ => True) (fun b5 => [(1, .int .i64 most), (2, .pointer (some ⟨b2, 0, none⟩)), (4, .pointer (some ⟨b4, 0, none⟩)), (5, .pointer (some ⟨b5, 0, none⟩))]) (fun b5 => [(2, arr b2 38 4 (vi q)), (4, row b4 36 [.int .u32 0, .int .u32 0, .string ByteArray.empty, .int .i64 0, .slice none 0 0]), (5, row b5 36 [.int .u32 (4 * (q 0 % 12)), .int .u32 0, .string ByteArray.empty, .int .i64 (q 2 % 4), .slice none 0 0]), (300, own 3 1 eI (.slice none 0 0) [])]) (fun b5 => []) ?_ (fun b5 _ => ?_)
  · refine r_draw [8, 9, 10, 11, 12, 13, 14, 15, 16, 5] _ rfl (stg_alts (V := [(0, 8, _), (1, 9, _), (5, 13, _), (6, 14, _)]) [0, 1, 5, 6] rfl rfl (prs_cons (pri rfl (p_idx_arr1 (j := 0) Try.underlying38 t3 rfl rfl (by rfl) (by decide))) (prs_cons (pri rfl (p_load1 t3 rfl rfl (g_arr1 (k := 2) rfl (by omega)))) (prs_cons (pri rfl (p_idx_arr1 (j := 2) Try.underlying38 t3 rfl rfl (by rfl) (by decide))) (prs_cons (pri rfl (p_load1 t3 rfl rfl (g_arr1 (k := 2) rfl (by omega)))) prs_nil)))) rfl [2, 9] rfl rfl (nx_cons (nx_mem 2 [2, 1, 0] [3, 4] (fun _ => [(3, 11, _), (4, 12, _)]) rfl rfl rfl rfl rfl rfl rfl rfl rfl (fun _ _ => rfl) rfl (ms_call (xs := [.tmp 9, .const (.int .i64 12)]) (mod_spec (q 0) 12 (by omega) (by omega)) cb17 [] [] [] [] rfl rfl rfl rfl rfl rfl rfl rfl (fun _ _ => rfl) (fun _ _ _ => rfl)) (fun _ _ => stg_alts [3, 4, 5, 6] rfl rfl (prs_cons (pri rfl (p_bin rfl rfl (b_mul (by first | exact w_i64 (by omega) (by omega) | rfl)))) (prs_cons (pri rfl (p_conv Try.underlying3 Try.underlying30 rfl (by first | exact w_u32 (by omega) (by omega) | rfl))) (prs_cons (pri rfl (p_idx_arr1 (j := 2) Try.underlying38 t3 rfl rfl (by rfl) (by decide))) (prs_cons (pri rfl (p_load1 t3 rfl rfl (g_arr1 (k := 2) rfl (by omega)))) prs_nil)))) rfl [7, 9] rfl rfl (nx_cons (nx_mem 7 [7, 6, 5, 2, 1, 0] [8] (fun _ => [(8, 16, _)]) rfl rfl rfl rfl rfl rfl rfl rfl rfl (fun _ _ => rfl) rfl (ms_call (xs := [.tmp 14, .const (.int .i64 4)]) (mod_spec (q 2) 4 (by omega) (by omega)) cb17 [] [] [] [] rfl rfl rfl rfl rfl rfl rfl rfl (fun _ _ => rfl) (fun _ _ _ => rfl)) (fun _ _ => stg_mem [8, 3, 4] 9 [9, 7, 6, 5, 2, 1, 0] [] (fun b5 => []) rfl rfl (prs_cons (pri rfl (p_build (parts := [(0, .tmp 12), (3, .tmp 15)]) t36 pl36 rfl rfl)) (prs_cons (pri rfl (p_bin rfl rfl (b_mul (by first | exact w_i64 (by omega) (by omega) | rfl)))) (prs_cons (pri rfl (p_conv Try.underlying3 Try.underlying30 rfl (by first | exact w_u32 (by omega) (by omega) | rfl))) prs_nil))) rfl rfl rfl rfl rfl rfl rfl rfl rfl rfl rfl (fun _ _ => rfl) rfl (ms_alloc t36 rfl) (fun b5 _ => stg_mem0 [8, 3, 4] 10 [10, 9, 8, 7, 6, 5, 4, 3, 2, 1, 0] [] (fun _ => []) rfl rfl (prs_cons (pri rfl (p_build (parts := [(0, .tmp 12), (3, .tmp 15)]) t36 pl36 rfl rfl)) (prs_cons (pri rfl (p_bin rfl rfl (b_mul (by first | exact w_i64 (by omega) (by omega) | rfl)))) (prs_cons (pri rfl (p_conv Try.underlying3 Try.underlying30 rfl (by first | exact w_u32 (by omega) (by omega) | rfl))) prs_nil))) rfl rfl rfl rfl rfl rfl rfl rfl rfl (fun _ _ => rfl) rfl (ms_store_all (k := 5) t36 rfl rfl rfl rfl rfl rfl) (fun _ _ => stg_end [] rfl rfl prs_nil rfl rfl rfl ?_)))) (nx_cons (nx_mem 9 [9, 2, 1, 0] [] (fun b5 => []) rfl rfl rfl rfl rfl rfl rfl rfl rfl (fun _ _ => rfl) rfl (ms_alloc t36 rfl) (fun b5 _ => stg_mem [3, 4, 5, 6] 7 [9, 7, 6, 5, 2, 1, 0] [8] (fun _ => [(8, 16, _)]) rfl rfl (prs_cons (pri rfl (p_bin rfl rfl (b_mul (by first | exact w_i64 (by omega) (by omega) | rfl)))) (prs_cons (pri rfl (p_conv Try.underlying3 Try.underlying30 rfl (by first | exact w_u32 (by omega) (by omega) | rfl))) (prs_cons (pri rfl (p_idx_arr1 (j := 2) Try.underlying38 t3 rfl rfl (by rfl) (by decide))) (prs_cons (pri rfl (p_load1 t3 rfl rfl (g_arr1 (k := 2) rfl (by omega)))) prs_nil)))) rfl rfl rfl rfl rfl rfl rfl rfl rfl rfl rfl (fun _ _ => rfl) rfl (ms_call (xs := [.tmp 14, .const (.int .i64 4)]) (mod_spec (q 2) 4 (by omega) (by omega)) cb17 [] [] [] [] rfl rfl rfl rfl rfl rfl rfl rfl (fun _ _ => rfl) (fun _ _ _ => rfl)) (fun _ _ => stg_mem0 [8, 3, 4] 10 [10, 9, 8, 7, 6, 5, 4, 3, 2, 1, 0] [] (fun _ => []) rfl rfl (prs_cons (pri rfl (p_build (parts := [(0, .tmp 12), (3, .tmp 15)]) t36 pl36 rfl rfl)) (prs_cons (pri rfl (p_bin rfl rfl (b_mul (by first | exact w_i64 (by omega) (by omega) | rfl)))) (prs_cons (pri rfl (p_conv Try.underlying3 Try.underlying30 rfl (by first | exact w_u32 (by omega) (by omega) | rfl))) prs_nil))) rfl rfl rfl rfl rfl rfl rfl rfl rfl (fun _ _ => rfl) rfl (ms_store_all (k := 5) t36 rfl rfl rfl rfl rfl rfl) (fun _ _ => stg_end [] rfl rfl prs_nil rfl rfl rfl ?_)))) nx_nil)))) (nx_cons (nx_mem 9 [9] [] (fun b5 => []) rfl rfl rfl rfl rfl rfl rfl rfl rfl (fun _ _ => rfl) rfl (ms_alloc t36 rfl) (fun b5 _ => stg_mem [0, 1, 5, 6] 2 [9, 2, 1, 0] [3, 4] (fun _ => [(3, 11, _), (4, 12, _)]) rfl rfl (prs_cons (pri rfl (p_idx_arr1 (j := 0) Try.underlying38 t3 rfl rfl (by rfl) (by decide))) (prs_cons (pri rfl (p_load1 t3 rfl rfl (g_arr1 (k := 2) rfl (by omega)))) (prs_cons (pri rfl (p_idx_arr1 (j := 2) Try.underlying38 t3 rfl rfl (by rfl) (by decide))) (prs_cons (pri rfl (p_load1 t3 rfl rfl (g_arr1 (k := 2) rfl (by omega)))) prs_nil)))) rfl rfl rfl rfl rfl rfl rfl rfl rfl rfl rfl (fun _ _ => rfl) rfl (ms_call (xs := [.tmp 9, .const (.int .i64 12)]) (mod_spec (q 0) 12 (by omega) (by omega)) cb17 [] [] [] [] rfl rfl rfl rfl rfl rfl rfl rfl (fun _ _ => rfl) (fun _ _ _ => rfl)) (fun _ _ => stg_mem [3, 4, 5, 6] 7 [9, 7, 6, 5, 2, 1, 0] [8] (fun _ => [(8, 16, _)]) rfl rfl (prs_cons (pri rfl (p_bin rfl rfl (b_mul (by first | exact w_i64 (by omega) (by omega) | rfl)))) (prs_cons (pri rfl (p_conv Try.underlying3 Try.underlying30 rfl (by first | exact w_u32 (by omega) (by omega) | rfl))) (prs_cons (pri rfl (p_idx_arr1 (j := 2) Try.underlying38 t3 rfl rfl (by rfl) (by decide))) (prs_cons (pri rfl (p_load1 t3 rfl rfl (g_arr1 (k := 2) rfl (by omega)))) prs_nil)))) rfl rfl rfl rfl rfl rfl rfl rfl rfl rfl rfl (fun _ _ => rfl) rfl (ms_call (xs := [.tmp 14, .const (.int .i64 4)]) (mod_spec (q 2) 4 (by omega) (by omega)) cb17 [] [] [] [] rfl rfl rfl rfl rfl rfl rfl rfl (fun _ _ => rfl) (fun _ _ _ => rfl)) (fun _ _ => stg_mem0 [8, 3, 4] 10 [10, 9, 8, 7, 6, 5, 4, 3, 2, 1, 0] [] (fun _ => []) rfl rfl (prs_cons (pri rfl (p_build (parts := [(0, .tmp 12), (3, .tmp 15)]) t36 pl36 rfl rfl)) (prs_cons (pri rfl (p_bin rfl rfl (b_mul (by first | exact w_i64 (by omega) (by omega) | rfl)))) (prs_cons (pri rfl (p_conv Try.underlying3 Try.underlying30 rfl (by first | exact w_u32 (by omega) (by omega) | rfl))) prs_nil))) rfl rfl rfl rfl rfl rfl rfl rfl rfl (fun _ _ => rfl) rfl (ms_store_all (k := 5) t36 rfl rfl rfl rfl rfl rfl) (fun _ _ => stg_end [] rfl rfl prs_nil rfl rfl rfl ?_))))) nx_nil)))
    · refine r_here b5 trivial rfl rfl rfl
    · refine r_here b5 trivial rfl rfl rfl
    · refine r_here b5 trivial rfl rfl rfl
  · refine r_seq ?_
    refine r_seq ?_
    refine r_region ?_
    refine r_p (p_assign rfl) rfl ?_
    refine r_nil ?_
    refine r_block ?_
    refine r_loop (X := Nat × ByteArray) (fun x => (x.1 : Int) ≤ (q 1 % (most + 1)) ∧ x.2.size = x.1) (fun x => [(1, .int .i64 most), (2, .pointer (some ⟨b2, 0, none⟩)), (4, .pointer (some ⟨b4, 0, none⟩)), (5, .pointer (some ⟨b5, 0, none⟩)), (6, .int .i64 (x.1 : Int))]) (fun x => [(2, arr b2 38 4 (vi q)), (4, row b4 36 [.int .u32 0, .int .u32 0, .string ByteArray.empty, .int .i64 0, .slice none 0 0]), (5, row b5 36 [.int .u32 (4 * (q 0 % 12)), .int .u32 0, .string x.2, .int .i64 (q 2 % 4), .slice none 0 0]), (300, own 3 1 eI (.slice none 0 0) [])]) (fun x => []) (fun x => ((q 1 % (most + 1)) - x.1).toNat) (0, ByteArray.empty) ⟨by dsimp only; omega, rfl⟩ rfl rfl rfl (fun ⟨i, s⟩ hi0 => ?_)
    obtain ⟨hi0, hss⟩ := hi0
    dsimp only at hi0 hss ⊢
    refine r_seq ?_
    refine r_seq ?_
    refine r_region ?_
    refine r_p (p_move rfl) rfl ?_
    refine r_p (p_idx_arr1 (j := 1) Try.underlying38 t3 rfl rfl (by rfl) (by decide)) rfl ?_
    refine r_p (p_load1 t3 rfl rfl (g_arr1 (k := 2) rfl (by omega))) rfl ?_
    refine r_p (p_move rfl) rfl ?_
    refine r_p (p_bin rfl rfl (b_add (by first | exact w_i64 (by omega) (by omega) | rfl))) rfl ?_
    refine r_call (xs := [.tmp 19, .tmp 21]) (mod_spec (q 1) (most + 1) (by omega) (by omega)) cb17 [] [] [] [] rfl rfl rfl rfl rfl rfl rfl rfl (fun _ _ => rfl) (fun _ _ _ => rfl) rfl (fun _ _ => ?_)
    refine r_p (p_bin rfl rfl b_lt) rfl ?_
    refine r_nil ?_
    refine r_cond rfl (fun h1 => ?_) (fun h1 => ?_)
    · (try simp only [decide_eq_true_eq, decide_eq_false_iff_not, Bool.and_eq_true, Bool.or_eq_true, Bool.and_eq_false_iff, Bool.or_eq_false_iff, Bool.not_eq_true, Bool.not_eq_false, Bool.not_eq_true', Bool.not_eq_false', Bool.not_not, bne_iff_ne, beq_iff_eq] at h1)
      have hi : (i : Int) < (q 1 % (most + 1)) := by omega
      refine r_skip ?_
      refine r_seq ?_
      refine r_block ?_
      refine r_region ?_
      refine r_p (p_field0 fo36_2 rfl) rfl ?_
      refine r_p (p_load1 t9 rfl rfl (g_row1 (k := 5) rfl rfl)) rfl ?_
      refine r_p (p_idx_arr1 (j := 0) Try.underlying38 t3 rfl rfl (by rfl) (by decide)) rfl ?_
      refine r_p (p_load1 t3 rfl rfl (g_arr1 (k := 2) rfl (by omega))) rfl ?_
      refine r_p (p_move rfl) rfl ?_
      refine r_p (p_bin rfl rfl (b_mul (by first | exact w_i64 (by omega) (by omega) | rfl))) rfl ?_
      refine r_p (p_bin rfl rfl (b_add (by first | exact w_i64 (by omega) (by omega) | rfl))) rfl ?_
      refine r_p (p_conv Try.underlying3 Try.underlying5 rfl (by first | exact w_u8 (by omega) (by omega) | rfl)) rfl ?_
      refine r_bslice1 eU8 _ Try.underlying90 t5 rfl (by decide) (by decide) rfl rfl rfl rfl fun v34 => ?_
      refine r_p (p_b2s Try.underlying90 Try.underlying5 Try.underlying9 rfl (hs_own (k := 34) rfl) (by simp)) rfl ?_
      refine r_p (p_bin rfl rfl (b_sadd (by rw [ofI_size]; simp; omega))) rfl ?_
      refine r_p (p_field0 fo36_2 rfl) rfl ?_
      refine r_store_row (k := 5) t9 rfl rfl rfl rfl rfl rfl rfl rfl ?_
      refine r_nil ?_
      refine r_region ?_
      refine r_p (p_move rfl) rfl ?_
      refine r_p (p_bin rfl rfl (b_add (by first | exact w_i64 (by omega) (by omega) | rfl))) rfl ?_
      refine r_p (p_assign rfl) rfl ?_
      refine r_nil ?_
      refine r_here (i + 1, _) ⟨⟨by dsimp only; omega, by dsimp only; rw [ByteArray.size_append, ofI_size, hss]; rfl⟩, by dsimp only; omega⟩ rfl rfl rfl
    · (try simp only [decide_eq_true_eq, decide_eq_false_iff_not, Bool.and_eq_true, Bool.or_eq_true, Bool.and_eq_false_iff, Bool.or_eq_false_iff, Bool.not_eq_true, Bool.not_eq_false, Bool.not_eq_true', Bool.not_eq_false', Bool.not_not, bne_iff_ne, beq_iff_eq] at h1)
      have hi : (i : Int) = (q 1 % (most + 1)) := by omega
      refine r_exit ?_
      refine r_seq ?_
      refine r_seq ?_
      refine r_region ?_
      refine r_p (p_assign rfl) rfl ?_
      refine r_nil ?_
      refine r_block ?_
      refine r_loop (X := Nat × SV × List Int) (fun x => x.1 ≤ 4 ∧ x.2.2.length ≤ x.1) (fun x => [(1, .int .i64 most), (2, .pointer (some ⟨b2, 0, none⟩)), (4, .pointer (some ⟨b4, 0, none⟩)), (5, .pointer (some ⟨b5, 0, none⟩)), (7, .int .i64 (x.1 : Int))]) (fun x => [(2, arr b2 38 4 (vi q)), (4, row b4 36 [.int .u32 0, .int .u32 0, .string ByteArray.empty, .int .i64 0, .slice none 0 0]), (5, row b5 36 [.int .u32 (4 * (q 0 % 12)), .int .u32 0, .string s, .int .i64 (q 2 % 4), sv x.2.1]), (300, own 3 1 eI (sv x.2.1) x.2.2)]) (fun x => []) (fun x => 4 - x.1) (0, nilS, []) ⟨by dsimp only; omega, by simp⟩ rfl rfl rfl (fun ⟨p, vp, lp⟩ hp0 => ?_)
      obtain ⟨hp0, hpl⟩ := hp0
      dsimp only at hp0 hpl ⊢
      refine r_seq ?_
      refine r_seq ?_
      refine r_region ?_
      refine r_p (p_move rfl) rfl ?_
      refine r_p (p_bin rfl rfl b_lt) rfl ?_
      refine r_nil ?_
      refine r_cond rfl (fun h2 => ?_) (fun h2 => ?_)
      · (try simp only [decide_eq_true_eq, decide_eq_false_iff_not, Bool.and_eq_true, Bool.or_eq_true, Bool.and_eq_false_iff, Bool.or_eq_false_iff, Bool.not_eq_true, Bool.not_eq_false, Bool.not_eq_true', Bool.not_eq_false', Bool.not_not, bne_iff_ne, beq_iff_eq] at h2)
        have hp : p < 4 := by omega
        refine r_skip ?_
        refine r_seq ?_
        refine r_block ?_
        refine r_seq ?_
        refine r_region ?_
        refine r_p (p_idx_arr1 (j := 3) Try.underlying38 t3 rfl rfl (by rfl) (by decide)) rfl ?_
        refine r_p (p_load1 t3 rfl rfl (g_arr1 (k := 2) rfl (by omega))) rfl ?_
        refine r_call (xs := [.tmp 43, .const (.int .i64 16)]) (mod_spec (q 3) 16 (by omega) (by omega)) cb17 [] [] [] [] rfl rfl rfl rfl rfl rfl rfl rfl (fun _ _ => rfl) (fun _ _ _ => rfl) rfl (fun _ _ => ?_)
        refine r_p (p_move rfl) rfl ?_
        refine r_p (p_conv Try.underlying3 Try.underlying91 rfl (by first | exact w_u64 (by omega) (by omega) | rfl)) rfl ?_
        refine r_p (p_bin rfl rfl (b_shr (by omega) (by first | decide | (simp [IntKind.bits]; omega)) rfl)) rfl ?_
        refine r_p (p_bin rfl rfl (b_and rfl)) rfl ?_
        refine r_p (p_bin rfl rfl b_eq) rfl ?_
        refine r_nil ?_
        refine r_cond rfl (fun h3 => ?_) (fun h3 => ?_)
        · (try simp only [decide_eq_true_eq, decide_eq_false_iff_not, Bool.and_eq_true, Bool.or_eq_true, Bool.and_eq_false_iff, Bool.or_eq_false_iff, Bool.not_eq_true, Bool.not_eq_false, Bool.not_eq_true', Bool.not_eq_false', Bool.not_not, bne_iff_ne, beq_iff_eq] at h3)
          refine r_region ?_
          refine r_p (p_field0 fo36_4 rfl) rfl ?_
          refine r_p (p_load1 t23 rfl rfl (g_row1 (k := 5) rfl rfl)) rfl ?_
          refine r_p (p_move rfl) rfl ?_
          refine r_bslice1 eI (p : Int) Try.underlying23 t3 rfl (by decide) (by decide) rfl rfl rfl rfl fun v53 => ?_
          refine r_append 300 Try.underlying23 t3 rfl (by decide) (fun _ => rfl) (fun _ => rfl) rfl rfl rfl (hs_own (k := 53) rfl) (by first | omega | (simp; done) | (simp; omega)) (by unfold maxLen; first | omega | (simp; done) | (simp; omega)) rfl fun v54 => ?_
          refine r_p (p_field0 fo36_4 rfl) rfl ?_
          refine r_store_row (k := 5) t23 rfl rfl rfl rfl rfl rfl rfl rfl ?_
          refine r_nil ?_
          refine r_region ?_
          refine r_p (p_move rfl) rfl ?_
          refine r_p (p_bin rfl rfl (b_add (by first | exact w_i64 (by omega) (by omega) | rfl))) rfl ?_
          refine r_p (p_assign rfl) rfl ?_
          refine r_nil ?_
          refine r_here (p + 1, _, _) ⟨⟨by dsimp only; omega, by dsimp only; first | omega | (simp; omega)⟩, by dsimp only; omega⟩ rfl rfl rfl
        · (try simp only [decide_eq_true_eq, decide_eq_false_iff_not, Bool.and_eq_true, Bool.or_eq_true, Bool.and_eq_false_iff, Bool.or_eq_false_iff, Bool.not_eq_true, Bool.not_eq_false, Bool.not_eq_true', Bool.not_eq_false', Bool.not_not, bne_iff_ne, beq_iff_eq] at h3)
          refine r_skip ?_
          refine r_region ?_
          refine r_p (p_move rfl) rfl ?_
          refine r_p (p_bin rfl rfl (b_add (by first | exact w_i64 (by omega) (by omega) | rfl))) rfl ?_
          refine r_p (p_assign rfl) rfl ?_
          refine r_nil ?_
          refine r_here (p + 1, _, _) ⟨⟨by dsimp only; omega, by dsimp only; first | omega | (simp; omega)⟩, by dsimp only; omega⟩ rfl rfl rfl
      · (try simp only [decide_eq_true_eq, decide_eq_false_iff_not, Bool.and_eq_true, Bool.or_eq_true, Bool.and_eq_false_iff, Bool.or_eq_false_iff, Bool.not_eq_true, Bool.not_eq_false, Bool.not_eq_true', Bool.not_eq_false', Bool.not_not, bne_iff_ne, beq_iff_eq] at h2)
        have hp : p = 4 := by omega
        subst hp
        refine r_exit ?_
        refine r_seq ?_
        refine r_region ?_
        refine r_p (p_loadA t36 rfl rfl rfl (g_all (k := 5) rfl)) rfl ?_
        refine r_store_all (k := 4) t36 rfl rfl rfl rfl rfl rfl ?_
        refine r_nil ?_
        refine r_cret ?_
        refine r_ret ⟨(4 * (q 0 % 12)), 0, s, (q 2 % 4), 0, vp, nilS, nilS, 0, lp⟩ ⟨rfl, rfl, by dsimp only; omega, rfl, by dsimp only; omega⟩ rfl (rs1 (rv_cellA t36 rfl rfl rfl (g_all (k := 4) rfl))) rfl [300] [] rfl rfl rfl
set_option maxHeartbeats 1000000 in
set_option maxRecDepth 100000 in
theorem entry_spec (x : En) (hst : 0 ≤ x.st ∧ x.st ≤ 100) :
    Spec Try.prog 20 [veR x] [] [] (X := (SV × SV)) (fun y => (y.2.n : Int) = x.st) (fun y => veEnt (entE x y.1 y.2)) (fun _ => []) (fun _ => []) := by
  refine r_enter Try.func20 rfl Try.ntmps20 rfl fun w0 M H => ?_
  refine r_nilown 300 (S := 88) (s := 6) (enc := eSite) ?_
  refine r_seq ?_
  refine r_region ?_
  refine r_boxA rfl rfl fun b1 => ?_
  refine r_alloc t54 rfl rfl fun b2 => ?_
  refine r_nil ?_
  refine r_seq ?_
  refine r_region ?_
  refine r_p (p_field0 fo36_0 rfl) rfl ?_
  refine r_p (p_load1 t30 rfl rfl (g_row1 (k := 1) rfl rfl)) rfl ?_
  refine r_p (p_field0 fo36_1 rfl) rfl ?_
  refine r_p (p_load1 t30 rfl rfl (g_row1 (k := 1) rfl rfl)) rfl ?_
  refine r_p (p_field0 fo36_0 rfl) rfl ?_
  refine r_p (p_load1 t30 rfl rfl (g_row1 (k := 1) rfl rfl)) rfl ?_
  refine r_bslice1 eW x.pc Try.underlying44 t30 rfl (by decide) (by decide) rfl rfl rfl rfl fun v11 => ?_
  refine r_p (p_field0 fo36_4 rfl) rfl ?_
  refine r_p (p_load1 t23 rfl rfl (g_row1 (k := 1) rfl rfl)) rfl ?_
  refine r_p (p_build (parts := [(0, .tmp 11), (1, .tmp 13)]) t47 pl47 rfl rfl) rfl ?_
  refine r_p (p_field0 fo36_2 rfl) rfl ?_
  refine r_p (p_load1 t9 rfl rfl (g_row1 (k := 1) rfl rfl)) rfl ?_
  refine r_p (p_build (parts := [(0, .tmp 16)]) t52 pl52 rfl rfl) rfl ?_
  refine r_p (p_build (cs := (eEnt { dE with pc := x.pc, base := x.base, at_ := v11, pages := x.pages, bytes := x.bytes }).toArray) (parts := [(0, .tmp 6), (1, .tmp 8), (2, .tmp 14), (4, .tmp 17)]) t54 pl54 rfl (by kernel_rfl)) rfl ?_
  refine r_alloc t54 rfl rfl fun b3 => ?_
  refine r_store_all (k := 3) t54 rfl rfl rfl rfl rfl rfl ?_
  refine r_nil ?_
  refine r_seq ?_
  refine r_region ?_
  refine r_p (p_field0 fo36_3 rfl) rfl ?_
  refine r_p (p_load1 t3 rfl rfl (g_row1 (k := 1) rfl rfl)) rfl ?_
  refine r_p (p_field0 fo54_3 rfl) rfl ?_
  refine r_p (p_idx_arr (j := 3) Try.underlying49 t3 rfl rfl (by rfl) (by decide)) rfl ?_
  refine r_store_row (k := 3) t3 rfl rfl rfl rfl rfl rfl rfl rfl ?_
  refine r_nil ?_
  refine r_seq ?_
  refine r_seq ?_
  refine r_region ?_
  refine r_p (p_assign rfl) rfl ?_
  refine r_nil ?_
  refine r_block ?_
  refine r_loop (X := Nat × SV) (fun y => (y.1 : Int) ≤ x.st) (fun y => [(1, .pointer (some ⟨b1, 0, none⟩)), (2, .pointer (some ⟨b2, 0, none⟩)), (3, .pointer (some ⟨b3, 0, none⟩)), (4, .int .i64 (y.1 : Int))]) (fun y => [(1, row b1 36 (eR x)), (2, row b2 54 (eEnt dE)), (3, row b3 54 (eEnt (entE x v11 y.2))), (300, own 88 6 eSite (sv y.2) (sitesL y.1))]) (fun y => []) (fun y => (x.st - y.1).toNat) (0, nilS) (by dsimp only; omega) rfl rfl rfl (fun ⟨k, vs⟩ hk0 => ?_)
  dsimp only at hk0 ⊢
  have hsl : (sitesL k).length = k := by simp [sitesL]
  refine r_seq ?_
  refine r_seq ?_
  refine r_region ?_
  refine r_p (p_move rfl) rfl ?_
  refine r_p (p_field0 fo36_3 rfl) rfl ?_
  refine r_p (p_load1 t3 rfl rfl (g_row1 (k := 1) rfl rfl)) rfl ?_
  refine r_p (p_bin rfl rfl b_lt) rfl ?_
  refine r_nil ?_
  refine r_cond rfl (fun h1 => ?_) (fun h1 => ?_)
  · (try simp only [decide_eq_true_eq, decide_eq_false_iff_not, Bool.and_eq_true, Bool.or_eq_true, Bool.and_eq_false_iff, Bool.or_eq_false_iff, Bool.not_eq_true, Bool.not_eq_false, Bool.not_eq_true', Bool.not_eq_false', Bool.not_not, bne_iff_ne, beq_iff_eq] at h1)
    have hk : (k : Int) < x.st := by omega
    refine r_skip ?_
    refine r_seq ?_
    refine r_block ?_
    refine r_region ?_
    refine r_p (p_field0 fo54_4 rfl) rfl ?_
    refine r_p (p_field fo52_1 rfl) rfl ?_
    refine r_p (p_load1 t50 rfl rfl (g_row1 (k := 3) rfl rfl)) rfl ?_
    refine r_p (p_move rfl) rfl ?_
    refine r_p (p_build (parts := [(0, .tmp 32), (1, .const (.int .i64 4))]) t88 pl88 rfl rfl) rfl ?_
    refine r_bslice1 eSite (k : Int) Try.underlying50 t88 rfl (by decide) (by decide) rfl rfl rfl rfl fun v34 => ?_
    refine r_append 300 Try.underlying50 t88 rfl (by decide) (fun _ => rfl) (fun _ => rfl) rfl rfl rfl (hs_own (k := 34) rfl) (by first | omega | (simp; done) | (simp; omega)) (by unfold maxLen; first | omega | (simp; done) | (simp; omega)) rfl fun v35 => ?_
    refine r_p (p_field0 fo54_4 rfl) rfl ?_
    refine r_p (p_field fo52_1 rfl) rfl ?_
    refine r_store_row (k := 3) t50 rfl rfl rfl rfl rfl rfl rfl rfl ?_
    refine r_nil ?_
    refine r_region ?_
    refine r_p (p_move rfl) rfl ?_
    refine r_p (p_bin rfl rfl (b_add (by first | exact w_i64 (by omega) (by omega) | rfl))) rfl ?_
    refine r_p (p_assign rfl) rfl ?_
    refine r_nil ?_
    refine r_here (k + 1, v35) ⟨by dsimp only; omega, by dsimp only; omega⟩ rfl (by rw [sitesL_succ]; rfl) rfl
  · (try simp only [decide_eq_true_eq, decide_eq_false_iff_not, Bool.and_eq_true, Bool.or_eq_true, Bool.and_eq_false_iff, Bool.or_eq_false_iff, Bool.not_eq_true, Bool.not_eq_false, Bool.not_eq_true', Bool.not_eq_false', Bool.not_not, bne_iff_ne, beq_iff_eq] at h1)
    have hk : (k : Int) = x.st := by omega
    refine r_factG (k := 300) rfl (fun w G h => own_n w G h) (fun hvn => ?_)
    refine r_exit ?_
    refine r_seq ?_
    refine r_region ?_
    refine r_p (p_loadA t54 rfl rfl rfl (g_all (k := 3) rfl)) rfl ?_
    refine r_store_all (k := 2) t54 rfl rfl rfl rfl rfl rfl ?_
    refine r_nil ?_
    refine r_cret ?_
    refine r_ret (v11, vs) (by dsimp only; rw [hvn, hsl]; exact hk) rfl (rs1 (rv_cellA t54 rfl rfl rfl (g_all (k := 2) rfl))) rfl [] [] rfl rfl rfl
set_option maxHeartbeats 1000000 in
set_option maxRecDepth 100000 in
theorem same_spec (x : En) (hx : SameOk x) :
    Spec Try.prog 23 [veEnt x, veR x] [] [sl 1 eI (sv x.pages) x.pg] (X := Unit) (fun _ => True) (fun _ => .bool true) (fun _ => []) (fun _ => []) := by
  refine r_enter Try.func23 rfl Try.ntmps23 rfl fun w0 M H => ?_
  obtain ⟨hx1, hx2, hx3, hx4, hx5⟩ := hx
  refine r_seq ?_
  refine r_region ?_
  refine r_boxA rfl rfl fun b2 => ?_
  refine r_boxA rfl rfl fun b3 => ?_
  refine r_p (p_assign rfl) rfl ?_
  refine r_nil ?_
  refine r_seq ?_
  refine r_seq ?_
  refine r_draw [6, 7, 8, 9, 10, 11, 12, 13, 14, 15, 16, 17, 18, 19, 20, 21, 22, 23, 24, 25, 26, 27, 28, 29, 30, 31, 32, 33, 34, 35, 36, 37, 38, 39, 40, 41, 42, 43, 44, 45, 46, 47, 48, 49, 50, 51, 52, 53, 54, 55, 56, 57, 58, 59] _ rfl (stg_memg (V := [(0, 6, _), (1, 7, _), (2, 8, _), (3, 9, _), (4, 10, _), (5, 11, _), (6, 12, _), (7, 13, _), (8, 14, _), (9, 15, _), (10, 16, _), (11, 17, _), (12, 18, _), (13, 19, _), (14, 20, _), (15, 21, _), (16, 22, _), (17, 23, _), (18, 24, _), (19, 25, _), (20, 26, _), (21, 27, _), (22, 28, _), (23, 29, _), (24, 30, _), (25, 31, _), (26, 32, _), (27, 33, _), (28, 34, _), (29, 35, _), (30, 36, _), (31, 37, _), (32, 38, _), (33, 39, _), (34, 40, _), (35, 41, _), (36, 42, _), (37, 43, _), (38, 44, _), (39, 45, _), (40, 46, _), (41, 47, _), (42, 48, _), (43, 49, _), (44, 50, _), (45, 51, _), (46, 52, _), (47, 53, _), (48, 54, _), (49, 55, _), (50, 56, _)]) [0, 1, 2, 3, 4, 5, 6, 7, 8, 9, 10, 11, 12, 13, 14, 15, 16, 17, 18, 19, 20, 21, 22, 23, 24, 25, 26, 27, 28, 29, 30, 31, 32, 33, 34, 35, 36, 37, 38, 39, 40, 41, 42, 43, 44, 45, 46, 47, 48, 49, 50] 51 [51, 50, 47, 46, 45, 44, 43, 42, 41, 40, 39, 38, 37, 36, 35, 34, 33, 32, 31, 30, 29, 28, 27, 26, 25, 24, 23, 22, 21, 20, 19, 18, 17, 16, 15, 14, 13, 12, 11, 10, 9, 8, 7, 6, 5, 4, 3, 2, 1, 0] [52, 53] (fun _ => [(52, 58, _), (53, 59, _)]) rfl rfl (prs_cons (pri rfl (p_field0 fo54_0 rfl)) (prs_cons (pri rfl (p_load1 t30 rfl rfl (g_row1 (k := 2) rfl rfl))) (prs_cons (pri rfl (p_field0 fo36_0 rfl)) (prs_cons (pri rfl (p_load1 t30 rfl rfl (g_row1 (k := 3) rfl rfl))) (prs_cons (pri rfl (p_bin rfl rfl b_ne)) (prs_cons (pri rfl (p_move rfl)) (prs_cons (prig_y rfl rfl rfl (by simp [ba_beq]) (p_field0 fo54_1 rfl)) (prs_cons (prig_y rfl rfl rfl (by simp [ba_beq]) (p_load1 t30 rfl rfl (g_row1 (k := 2) rfl rfl))) (prs_cons (prig_y rfl rfl rfl (by simp [ba_beq]) (p_field0 fo36_1 rfl)) (prs_cons (prig_y rfl rfl rfl (by simp [ba_beq]) (p_load1 t30 rfl rfl (g_row1 (k := 3) rfl rfl))) (prs_cons (prig_y rfl rfl rfl (by simp [ba_beq]) (p_bin rfl rfl b_ne)) (prs_cons (pri rfl (p_pick rfl rfl rfl (pick_f (by simp [ba_beq])))) (prs_cons (pri rfl (p_move rfl)) (prs_cons (prig_y rfl rfl rfl (by simp [ba_beq]) (p_field0 fo54_4 rfl)) (prs_cons (prig_y rfl rfl rfl (by simp [ba_beq]) (p_field fo52_0 rfl)) (prs_cons (prig_y rfl rfl rfl (by simp [ba_beq]) (p_load1 t9 rfl rfl (g_row1 (k := 2) rfl rfl))) (prs_cons (prig_y rfl rfl rfl (by simp [ba_beq]) (p_field0 fo36_2 rfl)) (prs_cons (prig_y rfl rfl rfl (by simp [ba_beq]) (p_load1 t9 rfl rfl (g_row1 (k := 3) rfl rfl))) (prs_cons (prig_y rfl rfl rfl (by simp [ba_beq]) (p_bin rfl rfl b_sne)) (prs_cons (pri rfl (p_pick rfl rfl rfl (pick_f (by simp [ba_beq])))) (prs_cons (pri rfl (p_move rfl)) (prs_cons (prig_y rfl rfl rfl (by simp [ba_beq]) (p_field0 fo54_4 rfl)) (prs_cons (prig_y rfl rfl rfl (by simp [ba_beq]) (p_field fo52_1 rfl)) (prs_cons (prig_y rfl rfl rfl (by simp [ba_beq]) (p_load1 t50 rfl rfl (g_row1 (k := 2) rfl rfl))) (prs_cons (prig_y rfl rfl rfl (by simp [ba_beq]) (p_len_sv Try.underlying50 rfl)) (prs_cons (prig_y rfl rfl rfl (by simp [ba_beq]) (p_field0 fo36_3 rfl)) (prs_cons (prig_y rfl rfl rfl (by simp [ba_beq]) (p_load1 t3 rfl rfl (g_row1 (k := 3) rfl rfl))) (prs_cons (prig_y rfl rfl rfl (by simp [ba_beq]) (p_bin rfl rfl b_ne)) (prs_cons (pri rfl (p_pick rfl rfl rfl (pick_f (by simp [ba_beq])))) (prs_cons (pri rfl (p_move rfl)) (prs_cons (prig_y rfl rfl rfl (by simp [hx1]) (p_field0 fo54_3 rfl)) (prs_cons (prig_y rfl rfl rfl (by simp [hx1]) (p_idx_arr (j := 3) Try.underlying49 t3 rfl rfl (by rfl) (by decide))) (prs_cons (prig_y rfl rfl rfl (by simp [hx1]) (p_load1 t3 rfl rfl (g_row1 (k := 2) rfl rfl))) (prs_cons (prig_y rfl rfl rfl (by simp [hx1]) (p_field0 fo36_3 rfl)) (prs_cons (prig_y rfl rfl rfl (by simp [hx1]) (p_load1 t3 rfl rfl (g_row1 (k := 3) rfl rfl))) (prs_cons (prig_y rfl rfl rfl (by simp [hx1]) (p_bin rfl rfl b_ne)) (prs_cons (pri rfl (p_pick rfl rfl rfl (pick_f (by simp [hx1])))) (prs_cons (pri rfl (p_move rfl)) (prs_cons (prig_y rfl rfl rfl (by simp [hx2]) (p_field0 fo54_2 rfl)) (prs_cons (prig_y rfl rfl rfl (by simp [hx2]) (p_field fo47_1 rfl)) (prs_cons (prig_y rfl rfl rfl (by simp [hx2]) (p_load1 t23 rfl rfl (g_row1 (k := 2) rfl rfl))) (prs_cons (prig_y rfl rfl rfl (by simp [hx2]) (p_len_sv Try.underlying23 rfl)) (prs_cons (prig_y rfl rfl rfl (by simp [hx2]) (p_field0 fo36_4 rfl)) (prs_cons (prig_y rfl rfl rfl (by simp [hx2]) (p_load1 t23 rfl rfl (g_row1 (k := 3) rfl rfl))) (prs_cons (prig_y rfl rfl rfl (by simp [hx2]) (p_len_sv Try.underlying23 rfl)) (prs_cons (prig_y rfl rfl rfl (by simp [hx2]) (p_bin rfl rfl b_ne)) (prs_cons (pri rfl (p_pick rfl rfl rfl (pick_f (by simp [hx2])))) (prs_cons (pri rfl (p_move rfl)) (prs_cons (prig_y rfl rfl rfl (by simp [ba_beq]) (p_field0 fo54_5 rfl)) (prs_cons (prig_y rfl rfl rfl (by simp [ba_beq]) (p_load1 t30 rfl rfl (g_row1 (k := 2) rfl rfl))) (prs_cons (prig_y rfl rfl rfl (by simp [ba_beq]) (p_loadA t36 rfl rfl rfl (g_all (k := 3) rfl))) prs_nil))))))))))))))))))))))))))))))))))))))))))))))))))) rfl rfl rfl rfl rfl (by simp [ba_beq]) rfl rfl rfl rfl rfl rfl (fun _ _ => rfl) rfl (ms_call (xs := [.tmp 56]) (rsum_spec x hx4) cb47 [] [] [] [] rfl rfl rfl rfl rfl rfl rfl rfl (fun _ _ => rfl) (fun _ _ _ => rfl)) (fun _ _ => stg_end [52, 53, 48, 49] rfl rfl (prs_cons (prig_y rfl rfl rfl (by simp [ba_beq]) (p_bin rfl rfl b_ne)) (prs_cons (pri rfl (p_pick rfl rfl rfl (pick_f (by simp [ba_beq])))) (prs_cons (prig_y rfl rfl rfl (by simp [ba_beq]) (p_field0 fo54_5 rfl)) (prs_cons (prig_y rfl rfl rfl (by simp [ba_beq]) (p_load1 t30 rfl rfl (g_row1 (k := 2) rfl rfl))) prs_nil)))) rfl rfl rfl ?_))
  refine r_cond rfl (fun h1 => ?_) (fun h1 => ?_)
  · exact absurd h1 (by simp [hx3])
  · (try simp only [decide_eq_true_eq, decide_eq_false_iff_not, Bool.and_eq_true, Bool.or_eq_true, Bool.and_eq_false_iff, Bool.or_eq_false_iff, Bool.not_eq_true, Bool.not_eq_false, Bool.not_eq_true', Bool.not_eq_false', Bool.not_not, bne_iff_ne, beq_iff_eq] at h1)
    refine r_skip ?_
    refine r_seq ?_
    refine r_seq ?_
    refine r_region ?_
    refine r_p (p_assign rfl) rfl ?_
    refine r_nil ?_
    refine r_block ?_
    refine r_loop (X := Nat) (fun k => k ≤ x.pg.length) (fun k => [(2, .pointer (some ⟨b2, 0, none⟩)), (3, .pointer (some ⟨b3, 0, none⟩)), (5, .int .i64 (k : Int))]) (fun k => [(2, row b2 54 (eEnt x)), (3, row b3 36 (eR x))]) (fun k => [(0, sl 1 eI (sv x.pages) x.pg)]) (fun k => x.pg.length - k) 0 (Nat.zero_le _) rfl rfl rfl (fun k hk0 => ?_)
    refine r_seq ?_
    refine r_seq ?_
    refine r_region ?_
    refine r_p (p_move rfl) rfl ?_
    refine r_p (p_field0 fo36_4 rfl) rfl ?_
    refine r_p (p_load1 t23 rfl rfl (g_row1 (k := 3) rfl rfl)) rfl ?_
    refine r_p (p_len_sl Try.underlying23 rfl (hs_sl (k := 0) rfl)) rfl ?_
    refine r_p (p_bin rfl rfl b_lt) rfl ?_
    refine r_nil ?_
    refine r_cond rfl (fun h2 => ?_) (fun h2 => ?_)
    · (try simp only [decide_eq_true_eq, decide_eq_false_iff_not, Bool.and_eq_true, Bool.or_eq_true, Bool.and_eq_false_iff, Bool.or_eq_false_iff, Bool.not_eq_true, Bool.not_eq_false, Bool.not_eq_true', Bool.not_eq_false', Bool.not_not, bne_iff_ne, beq_iff_eq] at h2)
      have hk : k < x.pg.length := by omega
      refine r_skip ?_
      refine r_seq ?_
      refine r_block ?_
      refine r_seq ?_
      refine r_draw [67, 68, 69, 70, 71, 72, 73, 74, 75, 76, 77, 78] _ rfl (stg_end (V := [(0, 67, _), (1, 68, _), (2, 69, _), (3, 70, _), (4, 71, _), (5, 72, _), (6, 73, _), (7, 74, _), (8, 75, _), (9, 76, _), (10, 77, _), (11, 78, _)]) [0, 1, 2, 3, 4, 5, 6, 7, 8, 9, 10, 11] rfl rfl (prs_cons (pri rfl (p_field0 fo54_2 rfl)) (prs_cons (pri rfl (p_field fo47_1 rfl)) (prs_cons (pri rfl (p_load1 t23 rfl rfl (g_row1 (k := 2) rfl rfl))) (prs_cons (pri rfl (p_move rfl)) (prs_cons (pri rfl (p_idx_sl (j := k) Try.underlying23 t3 rfl rfl (hs_sl (k := 0) rfl) (by first | rfl | omega) (by first | omega | (simp; done) | (simp; omega)))) (prs_cons (pri rfl (p_load1 t3 rfl rfl (g_el' (hs_sl (k := 0) rfl) (by intro _; rfl) (getD_get 0 (by omega)) (by rfl)))) (prs_cons (pri rfl (p_field0 fo36_4 rfl)) (prs_cons (pri rfl (p_load1 t23 rfl rfl (g_row1 (k := 3) rfl rfl))) (prs_cons (pri rfl (p_move rfl)) (prs_cons (pri rfl (p_idx_sl (j := k) Try.underlying23 t3 rfl rfl (hs_sl (k := 0) rfl) (by first | rfl | omega) (by first | omega | (simp; done) | (simp; omega)))) (prs_cons (pri rfl (p_load1 t3 rfl rfl (g_el' (hs_sl (k := 0) rfl) (by intro _; rfl) (getD_get 0 (by omega)) (by rfl)))) (prs_cons (pri rfl (p_bin rfl rfl b_ne)) prs_nil)))))))))))) rfl rfl rfl ?_)
      refine r_cond rfl (fun h3 => ?_) (fun h3 => ?_)
      · exact absurd h3 (by simp)
      · (try simp only [decide_eq_true_eq, decide_eq_false_iff_not, Bool.and_eq_true, Bool.or_eq_true, Bool.and_eq_false_iff, Bool.or_eq_false_iff, Bool.not_eq_true, Bool.not_eq_false, Bool.not_eq_true', Bool.not_eq_false', Bool.not_not, bne_iff_ne, beq_iff_eq] at h3)
        refine r_skip ?_
        refine r_region ?_
        refine r_p (p_move rfl) rfl ?_
        refine r_p (p_bin rfl rfl (b_add (by first | exact w_i64 (by omega) (by omega) | rfl))) rfl ?_
        refine r_p (p_assign rfl) rfl ?_
        refine r_nil ?_
        refine r_here (k + 1) ⟨by omega, by omega⟩ rfl rfl rfl
    · (try simp only [decide_eq_true_eq, decide_eq_false_iff_not, Bool.and_eq_true, Bool.or_eq_true, Bool.and_eq_false_iff, Bool.or_eq_false_iff, Bool.not_eq_true, Bool.not_eq_false, Bool.not_eq_true', Bool.not_eq_false', Bool.not_not, bne_iff_ne, beq_iff_eq] at h2)
      have hk : k = x.pg.length := by omega
      refine r_exit ?_
      refine r_seq ?_
      refine r_region ?_
      refine r_p (p_assign rfl) rfl ?_
      refine r_nil ?_
      refine r_cret ?_
      refine r_ret () trivial rfl (rs1 (rv_tmp rfl)) rfl [] [] rfl rfl rfl
set_option maxHeartbeats 1000000 in
set_option maxRecDepth 100000 in
theorem sames_spec (v u : SV) (l S : List En) (hl : ∀ x ∈ l, SameOk x ∧ x ∈ S) (hlen : l.length ≤ 1000) :
    Spec Try.prog 25 [sv v, sv u] [] [sl 36 eEnt (sv v) l, sl 5 eR (sv u) l, pgP S] (X := Unit) (fun _ => True) (fun _ => .bool true) (fun _ => []) (fun _ => []) := by
  refine r_enter Try.func25 rfl Try.ntmps25 rfl fun w0 M H => ?_
  refine r_seq ?_
  refine r_region ?_
  refine r_p (p_assign rfl) rfl ?_
  refine r_nil ?_
  refine r_seq ?_
  refine r_seq ?_
  refine r_region ?_
  refine r_p (p_move rfl) rfl ?_
  refine r_p (p_len_sl Try.underlying39 rfl (hs_sl (k := 0) rfl)) rfl ?_
  refine r_p (p_move rfl) rfl ?_
  refine r_p (p_len_sl Try.underlying31 rfl (hs_sl (k := 1) rfl)) rfl ?_
  refine r_p (p_bin rfl rfl b_ne) rfl ?_
  refine r_nil ?_
  refine r_cond rfl (fun h1 => ?_) (fun h1 => ?_)
  · exact absurd h1 (by simp)
  · (try simp only [decide_eq_true_eq, decide_eq_false_iff_not, Bool.and_eq_true, Bool.or_eq_true, Bool.and_eq_false_iff, Bool.or_eq_false_iff, Bool.not_eq_true, Bool.not_eq_false, Bool.not_eq_true', Bool.not_eq_false', Bool.not_not, bne_iff_ne, beq_iff_eq] at h1)
    refine r_skip ?_
    refine r_seq ?_
    refine r_seq ?_
    refine r_region ?_
    refine r_p (p_assign rfl) rfl ?_
    refine r_nil ?_
    refine r_block ?_
    refine r_loop (X := Nat) (fun k => k ≤ l.length) (fun k => [(0, sv v), (1, sv u), (5, .int .i64 (k : Int))]) (fun k => []) (fun k => [(0, sl 36 eEnt (sv v) l), (1, sl 5 eR (sv u) l), (2, pgP S)]) (fun k => l.length - k) 0 (Nat.zero_le _) rfl rfl rfl (fun k hk0 => ?_)
    refine r_seq ?_
    refine r_seq ?_
    refine r_region ?_
    refine r_p (p_move rfl) rfl ?_
    refine r_p (p_move rfl) rfl ?_
    refine r_p (p_len_sl Try.underlying31 rfl (hs_sl (k := 1) rfl)) rfl ?_
    refine r_p (p_bin rfl rfl b_lt) rfl ?_
    refine r_nil ?_
    refine r_cond rfl (fun h2 => ?_) (fun h2 => ?_)
    · (try simp only [decide_eq_true_eq, decide_eq_false_iff_not, Bool.and_eq_true, Bool.or_eq_true, Bool.and_eq_false_iff, Bool.or_eq_false_iff, Bool.not_eq_true, Bool.not_eq_false, Bool.not_eq_true', Bool.not_eq_false', Bool.not_not, bne_iff_ne, beq_iff_eq] at h2)
      have hk : k < l.length := by omega
      refine r_pgsl 2 9 (l.getD k dE) rfl (hl _ (getD_mem' hk)).2 ?_
      refine r_skip ?_
      refine r_seq ?_
      refine r_block ?_
      refine r_seq ?_
      refine r_draw [18, 19, 20, 21, 22, 23, 24, 25, 26, 6] _ rfl (stg_mem (V := [(0, 18, _), (1, 19, _), (2, 20, _), (3, 21, _), (4, 22, _), (5, 23, _), (6, 24, _), (7, 25, _)]) [0, 1, 2, 3, 4, 5, 6, 7] 8 [8, 7, 6, 5, 4, 3, 2, 1, 0] [9] (fun _ => [(9, 6, _)]) rfl rfl (prs_cons (pri rfl (p_move rfl)) (prs_cons (pri rfl (p_move rfl)) (prs_cons (pri rfl (p_idx_sl (j := k) Try.underlying39 t54 rfl rfl (hs_sl (k := 0) rfl) (by first | rfl | omega) (by first | omega | (simp; done) | (simp; omega)))) (prs_cons (pri rfl (p_loadA t54 rfl rfl rfl (g_el' (hs_sl (k := 0) rfl) (by intro _; rfl) (getD_get dE (by omega)) (by rfl)))) (prs_cons (pri rfl (p_move rfl)) (prs_cons (pri rfl (p_move rfl)) (prs_cons (pri rfl (p_idx_sl (j := k) Try.underlying31 t36 rfl rfl (hs_sl (k := 1) rfl) (by first | rfl | omega) (by first | omega | (simp; done) | (simp; omega)))) (prs_cons (pri rfl (p_loadA t36 rfl rfl rfl (g_el' (hs_sl (k := 1) rfl) (by intro _; rfl) (getD_get dE (by omega)) (by rfl)))) prs_nil)))))))) rfl rfl rfl rfl rfl rfl rfl rfl rfl rfl rfl (fun _ _ => rfl) rfl (ms_call (xs := [.tmp 21, .tmp 25]) (same_spec (l.getD k dE) (hl _ (getD_mem' hk)).1) cb23 [] [(false, 9)] [] [] rfl rfl rfl rfl rfl rfl rfl rfl (fun _ _ => rfl) (fun _ _ _ => rfl)) (fun _ _ => stg_end [9] rfl rfl (prs_cons (pri rfl (p_assign rfl)) prs_nil) rfl rfl rfl ?_))
      refine r_seq ?_
      refine r_region ?_
      refine r_p (p_move rfl) rfl ?_
      refine r_p (p_not rfl) rfl ?_
      refine r_nil ?_
      refine r_cond rfl (fun h3 => ?_) (fun h3 => ?_)
      · exact absurd h3 (by simp)
      · (try simp only [decide_eq_true_eq, decide_eq_false_iff_not, Bool.and_eq_true, Bool.or_eq_true, Bool.and_eq_false_iff, Bool.or_eq_false_iff, Bool.not_eq_true, Bool.not_eq_false, Bool.not_eq_true', Bool.not_eq_false', Bool.not_not, bne_iff_ne, beq_iff_eq] at h3)
        refine r_skip ?_
        refine r_region ?_
        refine r_p (p_move rfl) rfl ?_
        refine r_p (p_bin rfl rfl (b_add (by first | exact w_i64 (by omega) (by omega) | rfl))) rfl ?_
        refine r_p (p_assign rfl) rfl ?_
        refine r_nil ?_
        refine r_here (k + 1) ⟨by omega, by omega⟩ rfl rfl rfl
    · (try simp only [decide_eq_true_eq, decide_eq_false_iff_not, Bool.and_eq_true, Bool.or_eq_true, Bool.and_eq_false_iff, Bool.or_eq_false_iff, Bool.not_eq_true, Bool.not_eq_false, Bool.not_eq_true', Bool.not_eq_false', Bool.not_not, bne_iff_ne, beq_iff_eq] at h2)
      have hk : k = l.length := by omega
      refine r_exit ?_
      refine r_seq ?_
      refine r_region ?_
      refine r_p (p_assign rfl) rfl ?_
      refine r_nil ?_
      refine r_cret ?_
      refine r_ret () trivial rfl (rs1 (rv_tmp rfl)) rfl [] [] rfl rfl rfl
set_option maxHeartbeats 1000000 in
set_option maxRecDepth 100000 in
theorem chains_spec (v u : SV) (l : List Lk) (hlen : l.length ≤ 1000) :
    Spec Try.prog 27 [sv v, sv u] [] [sl 3 eL (sv v) l, sl 3 eL (sv u) l] (X := Unit) (fun _ => True) (fun _ => .bool true) (fun _ => []) (fun _ => []) := by
  refine r_enter Try.func27 rfl Try.ntmps27 rfl fun w0 M H => ?_
  refine r_seq ?_
  refine r_region ?_
  refine r_p (p_assign rfl) rfl ?_
  refine r_nil ?_
  refine r_seq ?_
  refine r_seq ?_
  refine r_region ?_
  refine r_p (p_move rfl) rfl ?_
  refine r_p (p_len_sl Try.underlying40 rfl (hs_sl (k := 0) rfl)) rfl ?_
  refine r_p (p_move rfl) rfl ?_
  refine r_p (p_len_sl Try.underlying32 rfl (hs_sl (k := 1) rfl)) rfl ?_
  refine r_p (p_bin rfl rfl b_ne) rfl ?_
  refine r_nil ?_
  refine r_cond rfl (fun h1 => ?_) (fun h1 => ?_)
  · exact absurd h1 (by simp)
  · (try simp only [decide_eq_true_eq, decide_eq_false_iff_not, Bool.and_eq_true, Bool.or_eq_true, Bool.and_eq_false_iff, Bool.or_eq_false_iff, Bool.not_eq_true, Bool.not_eq_false, Bool.not_eq_true', Bool.not_eq_false', Bool.not_not, bne_iff_ne, beq_iff_eq] at h1)
    refine r_skip ?_
    refine r_seq ?_
    refine r_seq ?_
    refine r_region ?_
    refine r_p (p_assign rfl) rfl ?_
    refine r_nil ?_
    refine r_block ?_
    refine r_loop (X := Nat) (fun k => k ≤ l.length) (fun k => [(0, sv v), (1, sv u), (5, .int .i64 (k : Int))]) (fun k => []) (fun k => [(0, sl 3 eL (sv v) l), (1, sl 3 eL (sv u) l)]) (fun k => l.length - k) 0 (Nat.zero_le _) rfl rfl rfl (fun k hk0 => ?_)
    refine r_seq ?_
    refine r_seq ?_
    refine r_region ?_
    refine r_p (p_move rfl) rfl ?_
    refine r_p (p_move rfl) rfl ?_
    refine r_p (p_len_sl Try.underlying32 rfl (hs_sl (k := 1) rfl)) rfl ?_
    refine r_p (p_bin rfl rfl b_lt) rfl ?_
    refine r_nil ?_
    refine r_cond rfl (fun h2 => ?_) (fun h2 => ?_)
    · (try simp only [decide_eq_true_eq, decide_eq_false_iff_not, Bool.and_eq_true, Bool.or_eq_true, Bool.and_eq_false_iff, Bool.or_eq_false_iff, Bool.not_eq_true, Bool.not_eq_false, Bool.not_eq_true', Bool.not_eq_false', Bool.not_not, bne_iff_ne, beq_iff_eq] at h2)
      have hk : k < l.length := by omega
      refine r_skip ?_
      refine r_seq ?_
      refine r_block ?_
      refine r_seq ?_
      refine r_draw [17, 18, 19, 20, 21, 22, 23, 24, 25, 26, 27, 28, 29, 30, 31, 32, 33, 34, 35, 36, 37] _ rfl (stg_end (V := [(0, 17, _), (1, 18, _), (2, 19, _), (3, 20, _), (4, 21, _), (5, 22, _), (6, 23, _), (7, 24, _), (8, 25, _), (9, 26, _), (10, 27, _), (11, 28, _), (12, 29, _), (13, 30, _), (14, 31, _), (15, 32, _), (16, 33, _), (17, 34, _), (18, 35, _), (19, 36, _), (20, 37, _)]) [0, 1, 2, 3, 4, 5, 6, 7, 8, 9, 10, 11, 12, 13, 14, 15, 16, 17, 18, 19, 20] rfl rfl (prs_cons (pri rfl (p_move rfl)) (prs_cons (pri rfl (p_move rfl)) (prs_cons (pri rfl (p_idx_sl (j := k) Try.underlying40 t64 rfl rfl (hs_sl (k := 0) rfl) (by first | rfl | omega) (by first | omega | (simp; done) | (simp; omega)))) (prs_cons (pri rfl (p_loadA t64 rfl rfl rfl (g_el' (hs_sl (k := 0) rfl) (by intro _; rfl) (getD_get dL (by omega)) (by rfl)))) (prs_cons (pri rfl (p_move rfl)) (prs_cons (pri rfl (p_move rfl)) (prs_cons (pri rfl (p_idx_sl (j := k) Try.underlying32 t100 rfl rfl (hs_sl (k := 1) rfl) (by first | rfl | omega) (by first | omega | (simp; done) | (simp; omega)))) (prs_cons (pri rfl (p_field fo100_0 rfl)) (prs_cons (pri rfl (p_load1 t30 rfl rfl (g_elp (hs_sl (k := 1) rfl) (by intro _; rfl) (getD_get dL (by omega)) rfl))) (prs_cons (pri rfl (p_move rfl)) (prs_cons (pri rfl (p_move rfl)) (prs_cons (pri rfl (p_idx_sl (j := k) Try.underlying32 t100 rfl rfl (hs_sl (k := 1) rfl) (by first | rfl | omega) (by first | omega | (simp; done) | (simp; omega)))) (prs_cons (pri rfl (p_field fo100_1 rfl)) (prs_cons (pri rfl (p_load1 t3 rfl rfl (g_elp (hs_sl (k := 1) rfl) (by intro _; rfl) (getD_get dL (by omega)) rfl))) (prs_cons (pri rfl (p_move rfl)) (prs_cons (pri rfl (p_move rfl)) (prs_cons (pri rfl (p_idx_sl (j := k) Try.underlying32 t100 rfl rfl (hs_sl (k := 1) rfl) (by first | rfl | omega) (by first | omega | (simp; done) | (simp; omega)))) (prs_cons (pri rfl (p_field fo100_2 rfl)) (prs_cons (pri rfl (p_load1 t30 rfl rfl (g_elp (hs_sl (k := 1) rfl) (by intro _; rfl) (getD_get dL (by omega)) rfl))) (prs_cons (pri rfl (p_build (parts := [(0, .tmp 25), (1, .tmp 30), (2, .tmp 35)]) t64 pl64 rfl rfl)) (prs_cons (pri rfl (p_bin rfl rfl (b_neL (l.getD k dL)))) prs_nil))))))))))))))))))))) rfl rfl rfl ?_)
      refine r_cond rfl (fun h3 => ?_) (fun h3 => ?_)
      · exact absurd h3 (by simp)
      · (try simp only [decide_eq_true_eq, decide_eq_false_iff_not, Bool.and_eq_true, Bool.or_eq_true, Bool.and_eq_false_iff, Bool.or_eq_false_iff, Bool.not_eq_true, Bool.not_eq_false, Bool.not_eq_true', Bool.not_eq_false', Bool.not_not, bne_iff_ne, beq_iff_eq] at h3)
        refine r_skip ?_
        refine r_region ?_
        refine r_p (p_move rfl) rfl ?_
        refine r_p (p_bin rfl rfl (b_add (by first | exact w_i64 (by omega) (by omega) | rfl))) rfl ?_
        refine r_p (p_assign rfl) rfl ?_
        refine r_nil ?_
        refine r_here (k + 1) ⟨by omega, by omega⟩ rfl rfl rfl
    · (try simp only [decide_eq_true_eq, decide_eq_false_iff_not, Bool.and_eq_true, Bool.or_eq_true, Bool.and_eq_false_iff, Bool.or_eq_false_iff, Bool.not_eq_true, Bool.not_eq_false, Bool.not_eq_true', Bool.not_eq_false', Bool.not_not, bne_iff_ne, beq_iff_eq] at h2)
      have hk : k = l.length := by omega
      refine r_exit ?_
      refine r_seq ?_
      refine r_region ?_
      refine r_p (p_assign rfl) rfl ?_
      refine r_nil ?_
      refine r_cret ?_
      refine r_ret () trivial rfl (rs1 (rv_tmp rfl)) rfl [] [] rfl rfl rfl

end Go.Proofs.Ytbkonlkffajhkaa
