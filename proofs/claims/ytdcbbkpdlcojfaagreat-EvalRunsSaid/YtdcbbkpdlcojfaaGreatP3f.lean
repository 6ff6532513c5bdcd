/-
  Part of the proof: the texts C4, C5, C6, V3. Conditions are with the theorems.
-/
import Derived.Test.YtdcbbkpdlcojfaaGreatP3a
import Derived.Test.YtdcbbkpdlcojfaaGreatP3b
import Derived.Test.YtdcbbkpdlcojfaaGreatP3c
import Derived.Test.YtdcbbkpdlcojfaaGreatP3d
import Derived.Test.YtdcbbkpdlcojfaaGreatP3e
namespace Go.Proofs.YtdcbbkpdlcojfaaGreat
set_option linter.unusedSimpArgs false
set_option linter.unusedVariables false
open Go.RowKit

theorem er_whi {x : ByteArray} {v0 v1 vb v2 v3 : SV} {n : Int} {a : List Ty} : erYs [wVar x v0 n, wLoop x v1 vb (a ++ [wDown x v3 v2])] = [.mk 1 x [pNum n] [] [], .mk 5 oNil [pName x] (erYs a ++ [pDown x]) []] := by
 simp only [erYs, erY, erXs, erX, erYs_app, pNum, pName, pDown]
/-- The state of the loop over statements. -/
structure Xg where
 i : Nat
 vo : SV
 out : List Ty
 s : Gs
 vn : SV
/-- The contract of a block. -/
def HGY (e : Ge) (lev : Nat) : Prop := ∀ (s : Gs) (vn : SV), GInv s → Spec Tryz.prog 32 [.pointer (some ⟨e.g, 0, none⟩), .int .i64 (4 - (lev : Int))] [row e.g 76 (gRow e.vl s vn e.c.me e.vf), own 9 1 eS (sv vn) s.names] [sl 1 eI (sv e.vl) e.c.l, tfsA e.vf e.F] (X := SV × List Ty × Gs × SV) (fun x => GYr e.c lev s (erYs x.2.1) x.2.2.1 ∧ x.2.1.length ≤ 10) (fun x => sv x.1)
 (fun x => [row e.g 76 (gRow e.vl x.2.2.1 x.2.2.2 e.c.me e.vf), own 9 1 eS (sv x.2.2.2) x.2.2.1.names, own 53 5 eTy (sv x.1) x.2.1, ysA x.2.1]) (fun _ => [])
theorem fresh_at {v : Int} (h0 : 0 ≤ v) (h8 : v < 8) : ∃ x, freshL[v.toNat]? = some x ∧ v.toNat < freshL.length ∧ v = (v.toNat : Int) := by
 have h : v.toNat < freshL.length := by show _ < 8; omega
 exact ⟨_, List.getElem?_eq_getElem h, h, by omega⟩
set_option maxHeartbeats 32000000 in
set_option maxRecDepth 100000 in
theorem gstmts_step (e : Ge) (he : Gfine e) (lev : Nat) (hlv : lev ≤ 3) (ih : ∀ k, lev = k + 1 → HGY e k) (s0 : Gs) (vn0 : SV) (hi0 : GInv s0) :
  Spec Tryz.prog 32 [.pointer (some ⟨e.g, 0, none⟩), .int .i64 (4 - (lev : Int))] [row e.g 76 (gRow e.vl (s0) vn0 e.c.me e.vf), own 9 1 eS (sv vn0) s0.names] [sl 1 eI (sv e.vl) e.c.l, tfsA e.vf e.F] (X := SV × List Ty × Gs × SV) (fun x => GYr e.c lev s0 (erYs x.2.1) x.2.2.1 ∧ x.2.1.length ≤ 10) (fun x => sv x.1) (fun x => [row e.g 76 (gRow e.vl (x.2.2.1) x.2.2.2 e.c.me e.vf), own 9 1 eS (sv x.2.2.2) x.2.2.1.names, own 53 5 eTy (sv x.1) x.2.1, ysA x.2.1]) (fun _ => []) := by
 refine r_enter Tryz.func32 rfl Tryz.ntmps32 rfl fun w0 M H => ?_
 refine r_more 1 2 rfl (fun _ G h _ => ⟨G, h, fun _ hb => hb⟩) ?_
 refine r_more 2 3 rfl tfs_sl ?_
 have hfl : e.c.fs.length = e.F.length := by rw [he.fs, List.length_map]
 have hflb := he.fl
 have hmeb := he.me
 obtain ⟨j0, sm, hj0⟩ : ∃ j0 sm, gN e.c.l 5 s0 = (j0, sm) := ⟨_, _, rfl⟩
 have hjb0 := gN_bd (by decide) hj0
 have him : GInv sm := hi0.same (gN_st2 hj0)
 obtain ⟨many, hmany⟩ : ∃ many : Nat, (1 : Int) + j0 = (many : Int) := ⟨(1 + j0).toNat, by omega⟩
 refine r_seq ?_
 refine r_region ?_
 refine r_p (p_assign rfl) rfl ?_
 refine r_nil ?_
 refine r_seq ?_
 refine r_region ?_
 refine r_p (p_assign rfl) rfl ?_
 refine r_nil ?_
 refine r_seq ?_
 refine r_region ?_
 refine r_p (p_move rfl) rfl ?_
 refine r_callN (xs := [.tmp 19, .const (.int .i64 5)]) (gnext_spec e.g e.vl vn0 e.vf e.c he.hl he.hlo 5 (by decide) s0) cb31 [0] [(false, 0)] [0] rfl rfl rfl rfl rfl rfl rfl rfl (fun _ _ => rfl) (fun _ _ _ => rfl) rfl (fun _ _ => ?_)
 rw [hj0]
 dsimp only
 refine r_p (p_bin rfl rfl (b_add (by first | exact w_i64 (by omega) (by omega) | rfl))) rfl ?_
 rw [hmany]
 refine r_p (p_assign rfl) rfl ?_
 refine r_nil ?_
 refine r_seq ?_
 refine r_seq ?_
 refine r_region ?_
 refine r_p (p_assign rfl) rfl ?_
 refine r_nil ?_
 refine r_block ?_
 refine r_nilown 60 (α := Ty) (S := 53) (s := 5) (enc := eTy) ?_
 refine r_collect 40 [] (L := []) (C := ysA []) rfl (fun _ _ _ => trivial) ?_
 refine r_loop (X := Xg) (fun x => x.i ≤ many ∧ GInv x.s ∧ x.out.length ≤ 2 * x.i ∧ ∀ r s2, GLr e.c lev (many - x.i) x.s r s2 → GLr e.c lev many sm (erYs x.out ++ r) s2) (fun x => [(0, .pointer (some ⟨e.g, 0, none⟩)), (1, .int .i64 (4 - (lev : Int))), (5, sv x.vo), (6, .int .i64 (many : Int)), (7, .int .i64 (x.i : Int))]) (fun x => [(0, row e.g 76 (gRow e.vl (x.s) x.vn e.c.me e.vf)), (1, own 9 1 eS (sv x.vn) x.s.names), (60, own 53 5 eTy (sv x.vo) x.out), (40, ysA x.out)]) (fun x => [(0, sl 1 eI (sv e.vl) e.c.l), (2, tfsA e.vf e.F), (3, sl 3 eTf (sv e.vf) e.F)]) (fun x => many - x.i) ⟨0, nilS, [], sm, vn0⟩ ⟨Nat.zero_le _, him, Nat.le_refl _, fun r s2 h => h⟩ rfl (by dsimp only; rw [show sm.names = s0.names from (gN_st2 hj0).1]; rfl) rfl (fun x hx0 => ?_)
 obtain ⟨i, vo, out, s, vn⟩ := x
 obtain ⟨n1, n2, n3, n4⟩ := hx0
 dsimp only at n1 n2 n3 n4 ⊢
 refine r_seq ?_
 refine r_seq ?_
 refine r_region ?_
 refine r_p (p_move rfl) rfl ?_
 refine r_p (p_move rfl) rfl ?_
 refine r_p (p_bin rfl rfl b_lt) rfl ?_
 refine r_p (p_move rfl) rfl ?_
 refine r_gp [] rfl rfl trivial (fun hg1 => p_move rfl) rfl ?_
 refine r_gp [(26, _)] rfl rfl ⟨rfl, trivial⟩ (fun hg2 => p_nilCheck rfl) rfl ?_
 refine r_gp [(26, _), (27, _)] rfl rfl ⟨rfl, rfl, trivial⟩ (fun hg3 => p_field0 fo76_2 rfl) rfl ?_
 refine r_gp [(26, _), (27, _), (28, _)] rfl rfl ⟨rfl, rfl, rfl, trivial⟩ (fun hg4 => p_load1 t3 rfl rfl (g_row1 (k := 0) rfl rfl)) rfl ?_
 refine r_gp [(26, _), (27, _), (28, _), (29, _)] rfl rfl ⟨rfl, rfl, rfl, rfl, trivial⟩ (fun hg5 => p_bin rfl rfl b_gt) rfl ?_
 refine r_p (p_pick rfl rfl rfl (by first | exact pick_and | exact pick_or |  rfl)) rfl ?_
 refine r_nil ?_
 refine r_cond rfl (fun h6 => ?_) (fun h6 => ?_)
 ·(try simp only [decide_eq_true_eq, decide_eq_false_iff_not, Bool.and_eq_true, Bool.or_eq_true, Bool.and_eq_false_iff, Bool.or_eq_false_iff, Bool.not_eq_true, Bool.not_eq_false, Bool.not_eq_true', Bool.not_eq_false', Bool.not_not, bne_iff_ne, beq_iff_eq] at h6)
  have hi2 : i < many := by omega
  have hleft : 0 < s.left := h6.2
  obtain ⟨k, sa, hk⟩ : ∃ a b, gN e.c.l 12 { s with left := s.left - 1 } = (a, b) := ⟨_, _, rfl⟩
  have hkb := gN_bd (by decide) hk
  have hna : sa.names = s.names := (gN_st2 hk).1
  have hia : GInv sa := GInv.same (s := { s with left := s.left - 1 }) ⟨n2.v0, n2.v8, n2.nm, by show s.left - 1 ≤ 1000; have := n2.lf; omega⟩ (gN_st2 hk)
  have hin := hia.n
  have hv0 := hia.v0
  have hv8 := hia.v8
  have hinm : sa.names.length ≤ 1000 := hin
  rw [← hna]
  refine r_skip ?_
  refine r_seq ?_
  refine r_block ?_
  refine r_seq ?_
  refine r_region ?_
  refine r_p (p_move rfl) rfl ?_
  refine r_p (p_nilCheck rfl) rfl ?_
  refine r_p (p_field0 fo76_2 rfl) rfl ?_
  refine r_p (p_load1 t3 rfl rfl (g_row1 (k := 0) rfl rfl)) rfl ?_
  refine r_p (p_bin rfl rfl (b_sub (by exact w_i64 (by omega) (by have := n2.lf; omega)))) rfl ?_
  refine r_p (p_nilCheck rfl) rfl ?_
  refine r_p (p_field0 fo76_2 rfl) rfl ?_
  refine r_store_row (k := 0) t3 rfl rfl rfl rfl rfl rfl rfl rfl ?_
  refine r_nil ?_
  refine r_seq ?_
  refine r_region ?_
  refine r_p (p_move rfl) rfl ?_
  refine r_callN (xs := [.tmp 41, .const (.int .i64 12)]) (gnext_spec e.g e.vl vn e.vf e.c he.hl he.hlo (12) (by decide) ({ s with left := s.left - 1 })) cb31 [0] [(false, 0)] [0] rfl rfl rfl rfl rfl rfl rfl rfl (fun _ _ => rfl) (fun _ _ _ => rfl) rfl (fun _ _ => ?_)
  rw [hk]
  dsimp only
  refine r_p (p_assign rfl) rfl ?_
  refine r_nil ?_
  refine r_seq ?_
  refine r_region ?_
  refine r_bslice eS freshL (parts := [(0, .const (.string (ByteArray.mk #[97]))), (1, .const (.string (ByteArray.mk #[98]))), (2, .const (.string (ByteArray.mk #[99]))), (3, .const (.string (ByteArray.mk #[100]))), (4, .const (.string (ByteArray.mk #[101]))), (5, .const (.string (ByteArray.mk #[120, 49]))), (6, .const (.string (ByteArray.mk #[121, 50]))), (7, .const (.string (ByteArray.mk #[108, 111, 111, 112])))]) Tryz.underlying58 t9 rfl (by decide) (by intro _; rfl) rfl (by decide) (by decide) rfl rfl rfl rfl fun v43 => ?_
  refine r_p (p_assign rfl) rfl ?_
  refine r_nil ?_
  refine r_block ?_
  refine r_seq ?_
  refine r_region ?_
  refine r_p (p_move rfl) rfl ?_
  refine r_p (p_bin rfl rfl b_lt) rfl ?_
  refine r_p (p_move rfl) rfl ?_
  refine r_gp [] rfl rfl trivial (fun hg7 => p_move rfl) rfl ?_
  refine r_gp [(55, _)] rfl rfl ⟨rfl, trivial⟩ (fun hg8 => p_nilCheck rfl) rfl ?_
  refine r_gp [(55, _), (56, _)] rfl rfl ⟨rfl, rfl, trivial⟩ (fun hg9 => p_field0 fo76_5 rfl) rfl ?_
  refine r_gp [(55, _), (56, _), (57, _)] rfl rfl ⟨rfl, rfl, rfl, trivial⟩ (fun hg10 => p_load1 t3 rfl rfl (g_row1 (k := 0) rfl rfl)) rfl ?_
  refine r_gp [(55, _), (56, _), (57, _), (58, _)] rfl rfl ⟨rfl, rfl, rfl, rfl, trivial⟩ (fun hg11 => p_move rfl) rfl ?_
  refine r_gp [(55, _), (56, _), (57, _), (58, _), (59, _)] rfl rfl ⟨rfl, rfl, rfl, rfl, rfl, trivial⟩ (fun hg12 => p_len_sl Tryz.underlying58 rfl (hs_own (k := 43) rfl)) rfl ?_
  refine r_gp [(55, _), (56, _), (57, _), (58, _), (59, _), (60, _)] rfl rfl ⟨rfl, rfl, rfl, rfl, rfl, rfl, trivial⟩ (fun hg13 => p_bin rfl rfl b_lt) rfl ?_
  refine r_p (p_pick rfl rfl rfl (by first | exact pick_and | exact pick_or |  rfl)) rfl ?_
  refine r_p (p_assign rfl) rfl ?_
  refine r_nil ?_
  refine r_cond rfl (fun h14 => ?_) (fun h14 => ?_)
  ·(try simp only [decide_eq_true_eq, decide_eq_false_iff_not, Bool.and_eq_true, Bool.or_eq_true, Bool.and_eq_false_iff, Bool.or_eq_false_iff, Bool.not_eq_true, Bool.not_eq_false, Bool.not_eq_true', Bool.not_eq_false', Bool.not_not, bne_iff_ne, beq_iff_eq] at h14)
   have h2 : k < 3 ∧ sa.vars < 8 := ⟨h14.1, h14.2⟩
   obtain ⟨nm, hnm, hnm1, hnm2⟩ := fresh_at hia.v0 h2.2
   refine r_seq ?_
   refine r_region ?_
   refine r_p (p_move rfl) rfl ?_
   refine r_p (p_move rfl) rfl ?_
   refine r_p (p_nilCheck rfl) rfl ?_
   refine r_p (p_field0 fo76_5 rfl) rfl ?_
   refine r_p (p_load1 t3 rfl rfl (g_row1 (k := 0) rfl rfl)) rfl ?_
   refine r_p (p_idx_sl (j := sa.vars.toNat) Tryz.underlying58 t9 rfl rfl (hs_own (k := 43) rfl) hnm2 hnm1) rfl ?_
   refine r_p (p_load1 t9 rfl rfl (g_el' (hs_own (k := 43) rfl) (by intro _; rfl) hnm (by rfl))) rfl ?_
   refine r_p (p_assign rfl) rfl ?_
   refine r_nil ?_
   refine r_seq ?_
   refine r_region ?_
   refine r_p (p_move rfl) rfl ?_
   refine r_p (p_nilCheck rfl) rfl ?_
   refine r_p (p_field0 fo76_5 rfl) rfl ?_
   refine r_p (p_load1 t3 rfl rfl (g_row1 (k := 0) rfl rfl)) rfl ?_
   refine r_p (p_bin rfl rfl (b_add (by first | exact w_i64 (by omega) (by omega) | rfl))) rfl ?_
   refine r_p (p_nilCheck rfl) rfl ?_
   refine r_p (p_field0 fo76_5 rfl) rfl ?_
   refine r_store_row (k := 0) t3 rfl rfl rfl rfl rfl rfl rfl rfl ?_
   refine r_nil ?_
   refine r_seq ?_
   refine r_region ?_
   refine r_p (p_move rfl) rfl ?_
   refine r_callN (xs := [.tmp 77, .const (.int .i64 4)]) (gx_own he 3 (by decide) vn ({ sa with vars := sa.vars + 1 }) (by rw [show ({ sa with vars := sa.vars + 1 } : Gs).names = sa.names from rfl]; exact hin)) cb49 [0] [(false, 0), (true, 1), (false, 2)] [0, 78] rfl rfl rfl rfl rfl (by rw [show ({ sa with vars := sa.vars + 1 } : Gs).names = sa.names from rfl]; rfl) rfl rfl (fun _ _ => rfl) (fun _ _ _ => rfl) rfl (fun ⟨t1, s2⟩ ht1 => ?_)
   dsimp only at ht1 ⊢
   refine r_alloc t48 rfl rfl fun b11 => ?_
   refine r_store_all (k := 11) t48 rfl rfl rfl rfl rfl rfl ?_
   refine r_nil ?_
   refine r_seq ?_
   refine r_region ?_
   refine r_p (p_move rfl) rfl ?_
   refine r_p (p_move rfl) rfl ?_
   refine r_p (p_loadA t48 rfl rfl rfl (g_all (k := 11) rfl)) rfl ?_
   refine r_bslice1 eTx t1 Tryz.underlying46 t48 rfl (by decide) (by decide) rfl rfl rfl rfl fun v82 => ?_
   refine r_p (p_build (parts := [(0, .const (.int .i64 1)), (1, .tmp 80), (2, .tmp 82)]) t53 pl53 rfl rfl) rfl ?_
   refine r_bslice1 eTy (.mk 1 nm v82 [t1] nilS [] nilS []) Tryz.underlying51 t53 rfl (by decide) (by decide) rfl rfl rfl rfl fun v84 => ?_
   refine r_append 60 Tryz.underlying51 t53 rfl (by decide) (fun _ => rfl) (fun _ => rfl) rfl rfl rfl (hs_own (k := 84) rfl) (by simp only [List.length_append, List.length_cons, List.length_nil]; omega) (by unfold maxLen; simp only [List.length_append, List.length_cons, List.length_nil]; omega) rfl fun v85 => ?_
   refine r_p (p_assign rfl) rfl ?_
   refine r_nil ?_
   refine r_region ?_
   refine r_p (p_move rfl) rfl ?_
   refine r_p (p_move rfl) rfl ?_
   refine r_p (p_nilCheck rfl) rfl ?_
   refine r_p (p_field0 fo76_4 rfl) rfl ?_
   refine r_p (p_load1 t58 rfl rfl (g_row1 (k := 0) rfl rfl)) rfl ?_
   refine r_p (p_move rfl) rfl ?_
   refine r_bslice1 eS nm Tryz.underlying58 t9 rfl (by decide) (by decide) rfl rfl rfl rfl fun v92 => ?_
   refine r_append 1 Tryz.underlying58 t9 rfl (by decide) (fun _ => rfl) (fun _ => rfl) rfl rfl rfl (hs_own (k := 92) rfl) (by have := hinm; simp only [List.length_singleton]; omega) (by unfold maxLen; have := hinm; simp only [List.length_singleton]; omega) rfl fun v93 => ?_
   refine r_p (p_nilCheck rfl) rfl ?_
   refine r_p (p_field0 fo76_4 rfl) rfl ?_
   refine r_store_row (k := 0) t58 rfl rfl rfl rfl rfl rfl rfl rfl ?_
   refine r_nil ?_
   refine r_region ?_
   refine r_p (p_move rfl) rfl ?_
   refine r_p (p_bin rfl rfl (b_add (by first | exact w_i64 (by omega) (by omega) | rfl))) rfl ?_
   refine r_p (p_assign rfl) rfl ?_
   refine r_nil ?_
   have hg1 : G1r e.c (lev) k sa (erYs [.mk 1 nm v82 [t1] nilS [] nilS []]) ({ s2 with names := s2.names ++ [nm] }) := .var h2.1 hnm h2.2 ht1
   have hkp := hg1.inv hia
   refine r_collect 40 [40, 82, 78] (C := ysA (out ++ [.mk 1 nm v82 [t1] nilS [] nilS []])) rfl st1_all ?_
   refine r_here ⟨i + 1, v85, out ++ [.mk 1 nm v82 [t1] nilS [] nilS []], { s2 with names := s2.names ++ [nm] }, v93⟩ ⟨⟨by dsimp only; omega, hkp.inv, by dsimp only; rw [List.length_append]; simp only [List.length_cons, List.length_nil]; omega, by dsimp only; rw [erYs_app]; exact gl_next hi2 hleft hk hg1 n4⟩, by dsimp only; omega⟩ rfl (by dsimp only; rw [show s2.names = sa.names from ht1.keep.1]; rfl) rfl
  ·(try simp only [decide_eq_true_eq, decide_eq_false_iff_not, Bool.and_eq_true, Bool.or_eq_true, Bool.and_eq_false_iff, Bool.or_eq_false_iff, Bool.not_eq_true, Bool.not_eq_false, Bool.not_eq_true', Bool.not_eq_false', Bool.not_not, bne_iff_ne, beq_iff_eq] at h14)
   have q2 : ¬ (k < 3 ∧ sa.vars < 8) := by rintro ⟨a, b⟩; rcases h14 with h | h; exact h a; exact h b
   refine r_seq ?_
   refine r_region ?_
   refine r_p (p_move rfl) rfl ?_
   refine r_p (p_bin rfl rfl b_eq) rfl ?_
   refine r_p (p_move rfl) rfl ?_
   refine r_gp [] rfl rfl trivial (fun hg15 => p_move rfl) rfl ?_
   refine r_gp [(100, _)] rfl rfl ⟨rfl, trivial⟩ (fun hg16 => p_nilCheck rfl) rfl ?_
   refine r_gp [(100, _), (101, _)] rfl rfl ⟨rfl, rfl, trivial⟩ (fun hg17 => p_field0 fo76_4 rfl) rfl ?_
   refine r_gp [(100, _), (101, _), (102, _)] rfl rfl ⟨rfl, rfl, rfl, trivial⟩ (fun hg18 => p_load1 t58 rfl rfl (g_row1 (k := 0) rfl rfl)) rfl ?_
   refine r_gp [(100, _), (101, _), (102, _), (103, _)] rfl rfl ⟨rfl, rfl, rfl, rfl, trivial⟩ (fun hg19 => p_len_sl Tryz.underlying58 rfl (hs_own (k := 1) rfl)) rfl ?_
   refine r_gp [(100, _), (101, _), (102, _), (103, _), (104, _)] rfl rfl ⟨rfl, rfl, rfl, rfl, rfl, trivial⟩ (fun hg20 => p_bin rfl rfl b_gt) rfl ?_
   refine r_p (p_pick rfl rfl rfl (by first | exact pick_and | exact pick_or |  rfl)) rfl ?_
   refine r_p (p_assign rfl) rfl ?_
   refine r_nil ?_
   refine r_cond rfl (fun h21 => ?_) (fun h21 => ?_)
   ·(try simp only [decide_eq_true_eq, decide_eq_false_iff_not, Bool.and_eq_true, Bool.or_eq_true, Bool.and_eq_false_iff, Bool.or_eq_false_iff, Bool.not_eq_true, Bool.not_eq_false, Bool.not_eq_true', Bool.not_eq_false', Bool.not_not, bne_iff_ne, beq_iff_eq] at h21)
    have h3 : k = 3 ∧ 0 < sa.names.length := ⟨h21.1, by have := h21.2; omega⟩
    obtain ⟨x6, hx6, hja6, hjb6⟩ := gN_idx (l := e.c.l) (L := sa.names) (n := (sa.names.length : Int)) (by omega) rfl sa
    refine r_seq ?_
    refine r_draw [107, 108, 109, 110, 111, 112, 113, 114, 115, 116, 117, 118, 119, 12] _ rfl (stg_mem (V := [(0, 107, _), (1, 108, _), (2, 109, _), (3, 110, _), (4, 111, _), (5, 112, _), (6, 113, _), (7, 114, _), (8, 115, _), (9, 116, _)]) [0, 1, 2, 3, 4, 5, 6, 7, 8, 9] 10 [10, 9, 8, 7, 6, 5, 4] [11, 12, 13] (fun _ => [(11, 118, _), (12, 119, _), (13, 12, _)]) rfl rfl (prs_cons (pri rfl (p_move rfl)) (prs_cons (pri rfl (p_nilCheck rfl)) (prs_cons (pri rfl (p_field0 fo76_4 rfl)) (prs_cons (pri rfl (p_load1 t58 rfl rfl (g_row1 (k := 0) rfl rfl))) (prs_cons (pri rfl (p_move rfl)) (prs_cons (pri rfl (p_move rfl)) (prs_cons (pri rfl (p_nilCheck rfl)) (prs_cons (pri rfl (p_field0 fo76_4 rfl)) (prs_cons (pri rfl (p_load1 t58 rfl rfl (g_row1 (k := 0) rfl rfl))) (prs_cons (pri rfl (p_len_sl Tryz.underlying58 rfl (hs_own (k := 1) rfl))) prs_nil)))))))))) rfl rfl rfl rfl rfl rfl rfl rfl rfl rfl rfl (fun _ _ => rfl) rfl (ms_callN (xs := [.tmp 111, .tmp 116]) (gnext_spec e.g e.vl vn e.vf e.c he.hl he.hlo ((sa.names.length : Int)) (by omega) (sa)) cb31 [0] [(false, 0)] [0] rfl rfl rfl rfl rfl rfl rfl rfl (fun _ _ => rfl) (fun _ _ _ => rfl)) (fun _ _ => stg_end [11, 12, 13, 0, 1, 2, 3] rfl rfl (prs_cons (pri rfl (p_idx_sl (j := (gN e.c.l (sa.names.length : Int) sa).1.toNat) Tryz.underlying58 t9 rfl rfl (hs_own (k := 1) rfl) hjb6 hja6)) (prs_cons (pri rfl (p_load1 t9 rfl rfl (g_el' (hs_own (k := 1) rfl) (by intro _; rfl) hx6 (by rfl)))) (prs_cons (pri rfl (p_assign rfl)) (prs_cons (pri rfl (p_move rfl)) (prs_cons (pri rfl (p_nilCheck rfl)) (prs_cons (pri rfl (p_field0 fo76_4 rfl)) (prs_cons (pri rfl (p_load1 t58 rfl rfl (g_row1 (k := 0) rfl rfl))) prs_nil))))))) rfl rfl rfl ?_))
    refine r_region ?_
    refine r_p (p_move rfl) rfl ?_
    refine r_p (p_move rfl) rfl ?_
    refine r_p (p_move rfl) rfl ?_
    refine r_callN (xs := [.tmp 122, .const (.int .i64 4)]) (gx_own he 3 (by decide) vn ((gN e.c.l (sa.names.length : Int) sa).2) (by rw [(gN_keep e.c.l (sa.names.length : Int) sa).1]; exact hin)) cb49 [0] [(false, 0), (true, 1), (false, 2)] [0, 123] rfl rfl rfl rfl rfl (by rw [(gN_keep e.c.l (sa.names.length : Int) sa).1]; rfl) rfl rfl (fun _ _ => rfl) (fun _ _ _ => rfl) rfl (fun ⟨t1, s2⟩ ht1 => ?_)
    dsimp only at ht1 ⊢
    refine r_bslice1 eTx t1 Tryz.underlying46 t48 rfl (by decide) (by decide) rfl rfl rfl rfl fun v124 => ?_
    refine r_p (p_build (parts := [(0, .const (.int .i64 2)), (1, .tmp 121), (2, .tmp 124)]) t53 pl53 rfl rfl) rfl ?_
    refine r_bslice1 eTy (.mk 2 x6 v124 [t1] nilS [] nilS []) Tryz.underlying51 t53 rfl (by decide) (by decide) rfl rfl rfl rfl fun v126 => ?_
    refine r_append 60 Tryz.underlying51 t53 rfl (by decide) (fun _ => rfl) (fun _ => rfl) rfl rfl rfl (hs_own (k := 126) rfl) (by simp only [List.length_append, List.length_cons, List.length_nil]; omega) (by unfold maxLen; simp only [List.length_append, List.length_cons, List.length_nil]; omega) rfl fun v127 => ?_
    refine r_p (p_assign rfl) rfl ?_
    refine r_nil ?_
    refine r_region ?_
    refine r_p (p_move rfl) rfl ?_
    refine r_p (p_bin rfl rfl (b_add (by first | exact w_i64 (by omega) (by omega) | rfl))) rfl ?_
    refine r_p (p_assign rfl) rfl ?_
    refine r_nil ?_
    have hg1 : G1r e.c (lev) k sa (erYs [.mk 2 x6 v124 [t1] nilS [] nilS []]) (s2) := h3.1 ▸ .set h3.2 rfl hx6 ht1
    have hkp := hg1.inv hia
    refine r_collect 40 [40, 124, 123] (C := ysA (out ++ [.mk 2 x6 v124 [t1] nilS [] nilS []])) rfl st1_all ?_
    refine r_here ⟨i + 1, v127, out ++ [.mk 2 x6 v124 [t1] nilS [] nilS []], s2, vn⟩ ⟨⟨by dsimp only; omega, hkp.inv, by dsimp only; rw [List.length_append]; simp only [List.length_cons, List.length_nil]; omega, by dsimp only; rw [erYs_app]; exact gl_next hi2 hleft hk hg1 n4⟩, by dsimp only; omega⟩ rfl (by dsimp only; rw [show s2.names = sa.names from ht1.keep.1.trans (gN_keep _ _ _).1]; rfl) rfl
   ·(try simp only [decide_eq_true_eq, decide_eq_false_iff_not, Bool.and_eq_true, Bool.or_eq_true, Bool.and_eq_false_iff, Bool.or_eq_false_iff, Bool.not_eq_true, Bool.not_eq_false, Bool.not_eq_true', Bool.not_eq_false', Bool.not_not, bne_iff_ne, beq_iff_eq] at h21)
    have q3 : ¬ (k = 3 ∧ 0 < sa.names.length) := by rintro ⟨a, b⟩; rcases h21 with h | h; exact h a; omega
    refine r_seq ?_
    refine r_region ?_
    refine r_p (p_move rfl) rfl ?_
    refine r_p (p_bin rfl rfl b_eq) rfl ?_
    refine r_p (p_move rfl) rfl ?_
    refine r_gp [] rfl rfl trivial (fun hg22 => p_move rfl) rfl ?_
    refine r_gp [(132, _)] rfl rfl ⟨rfl, trivial⟩ (fun hg23 => p_bin rfl rfl b_eq) rfl ?_
    refine r_p (p_pick rfl rfl rfl (by first | exact pick_and | exact pick_or |  rfl)) rfl ?_
    refine r_p (p_assign rfl) rfl ?_
    refine r_nil ?_
    refine r_cond rfl (fun h24 => ?_) (fun h24 => ?_)
    ·(try simp only [decide_eq_true_eq, decide_eq_false_iff_not, Bool.and_eq_true, Bool.or_eq_true, Bool.and_eq_false_iff, Bool.or_eq_false_iff, Bool.not_eq_true, Bool.not_eq_false, Bool.not_eq_true', Bool.not_eq_false', Bool.not_not, bne_iff_ne, beq_iff_eq] at h24)
     have h4 : k = 4 ∨ k = 5 := h24
     refine r_seq ?_
     refine r_region ?_
     refine r_p (p_move rfl) rfl ?_
     refine r_callN (xs := [.tmp 135, .const (.int .i64 3)]) (gx_own he 2 (by decide) vn sa hin) cb49 [0] [(false, 0), (true, 1), (false, 2)] [0, 136] rfl rfl rfl rfl rfl rfl rfl rfl (fun _ _ => rfl) (fun _ _ _ => rfl) rfl (fun ⟨t1, s2⟩ ht1 => ?_)
     dsimp only at ht1 ⊢
     refine r_alloc t48 rfl rfl fun b13 => ?_
     refine r_store_all (k := 13) t48 rfl rfl rfl rfl rfl rfl ?_
     refine r_nil ?_
     refine r_draw [137, 138, 139, 140, 141, 142, 143, 144] _ rfl (stg_mem (V := [(0, 137, _), (1, 138, _), (2, 139, _)]) [0, 1, 2] 3 [3, 2] [] (fun x2 => []) rfl rfl (prs_cons (pri rfl (p_move rfl)) (prs_cons (pri rfl (p_loadA t48 rfl rfl rfl (g_all (k := 13) rfl))) (prs_cons (pri rfl (p_move rfl)) prs_nil))) rfl rfl rfl rfl rfl rfl rfl rfl rfl rfl rfl (fun _ _ => rfl) rfl (ms_callN (xs := [.tmp 139, .const (.int .i64 4)]) (gx_own he 3 (by decide) vn (s2) (by rw [show s2.names = sa.names from ht1.keep.1]; exact hin)) cb49 [0] [(false, 0), (true, 1), (false, 2)] [0, 140] rfl rfl rfl rfl rfl (by rw [show s2.names = sa.names from ht1.keep.1]; rfl) rfl rfl (fun _ _ => rfl) (fun _ _ _ => rfl)) (fun x2 ht2 => stg_mem [0, 1] 4 [4, 3, 2, 1] [5] (fun v141 => [(5, 142, _)]) rfl rfl (prs_cons (pri rfl (p_move rfl)) (prs_cons (pri rfl (p_loadA t48 rfl rfl rfl (g_all (k := 13) rfl))) prs_nil)) rfl rfl rfl rfl rfl rfl rfl rfl rfl rfl rfl (fun _ _ => rfl) rfl (ms_bslice eTx [t1, x2.1] (parts := [(0, .tmp 138), (1, .tmp 140)]) Tryz.underlying46 t48 rfl (by decide) (by intro _; rfl) rfl (by decide) (by decide) rfl rfl rfl) (fun v141 _ => stg_mem [5, 0] 6 [6, 5, 4, 3, 2, 1] [] (fun v143 => []) rfl rfl (prs_cons (pri rfl (p_build (parts := [(0, .const (.int .i64 3)), (2, .tmp 141)]) t53 pl53 rfl rfl)) (prs_cons (pri rfl (p_move rfl)) prs_nil)) rfl rfl rfl rfl rfl rfl rfl rfl rfl rfl rfl (fun _ _ => rfl) rfl (ms_bslice1 eTy (.mk 3 oNil v141 [t1, x2.1] nilS [] nilS []) Tryz.underlying51 t53 rfl (by decide) (by decide) rfl rfl rfl) (fun v143 _ => stg_mem [0] 7 [7, 6, 5, 4, 3, 2, 1, 0] [] (fun v144 => []) rfl rfl (prs_cons (pri rfl (p_move rfl)) prs_nil) rfl rfl rfl rfl rfl rfl rfl rfl rfl rfl rfl (fun _ _ => rfl) rfl (ms_append 60 Tryz.underlying51 t53 rfl (by decide) (fun _ => rfl) (fun _ => rfl) rfl rfl rfl (hs_own (k := 143) rfl) (by simp only [List.length_append, List.length_cons, List.length_nil]; omega) (by unfold maxLen; simp only [List.length_append, List.length_cons, List.length_nil]; omega)) (fun v144 _ => stg_last [] 8 [8, 7, 6, 5, 4, 3, 2, 1, 0] rfl rfl prs_nil rfl rfl rfl rfl rfl rfl rfl rfl (p_assign rfl) ?_)))))
     refine r_region ?_
     refine r_p (p_move rfl) rfl ?_
     refine r_p (p_bin rfl rfl (b_add (by first | exact w_i64 (by omega) (by omega) | rfl))) rfl ?_
     refine r_p (p_assign rfl) rfl ?_
     refine r_nil ?_
     have hg1 : G1r e.c (lev) k sa (erYs [.mk 3 oNil v141 [t1, x2.1] nilS [] nilS []]) (x2.2) := .put h4 ht1 ht2
     have hkp := hg1.inv hia
     refine r_collect 40 [40, 141, 136, 140] (C := ysA (out ++ [.mk 3 oNil v141 [t1, x2.1] nilS [] nilS []])) rfl st2_all ?_
     refine r_here ⟨i + 1, v144, out ++ [.mk 3 oNil v141 [t1, x2.1] nilS [] nilS []], x2.2, vn⟩ ⟨⟨by dsimp only; omega, hkp.inv, by dsimp only; rw [List.length_append]; simp only [List.length_cons, List.length_nil]; omega, by dsimp only; rw [erYs_app]; exact gl_next hi2 hleft hk hg1 n4⟩, by dsimp only; omega⟩ rfl (by dsimp only; rw [show x2.2.names = sa.names from ht2.keep.1.trans ht1.keep.1]; rfl) rfl
    ·(try simp only [decide_eq_true_eq, decide_eq_false_iff_not, Bool.and_eq_true, Bool.or_eq_true, Bool.and_eq_false_iff, Bool.or_eq_false_iff, Bool.not_eq_true, Bool.not_eq_false, Bool.not_eq_true', Bool.not_eq_false', Bool.not_not, bne_iff_ne, beq_iff_eq] at h24)
     have q4 : ¬ k = 4 ∧ ¬ k = 5 := h24
     refine r_seq ?_
     refine r_region ?_
     refine r_p (p_move rfl) rfl ?_
     refine r_p (p_bin rfl rfl b_eq) rfl ?_
     refine r_p (p_move rfl) rfl ?_
     refine r_gp [] rfl rfl trivial (fun hg25 => p_move rfl) rfl ?_
     refine r_gp [(149, _)] rfl rfl ⟨rfl, trivial⟩ (fun hg26 => p_bin rfl rfl b_lt) rfl ?_
     refine r_p (p_pick rfl rfl rfl (by first | exact pick_and | exact pick_or |  rfl)) rfl ?_
     refine r_p (p_assign rfl) rfl ?_
     refine r_nil ?_
     refine r_cond rfl (fun h27 => ?_) (fun h27 => ?_)
     ·(try simp only [decide_eq_true_eq, decide_eq_false_iff_not, Bool.and_eq_true, Bool.or_eq_true, Bool.and_eq_false_iff, Bool.or_eq_false_iff, Bool.not_eq_true, Bool.not_eq_false, Bool.not_eq_true', Bool.not_eq_false', Bool.not_not, bne_iff_ne, beq_iff_eq] at h27)
      have h5 : k = 6 := h27.1
      obtain ⟨lv, rfl⟩ : ∃ lv, lev = lv + 1 := ⟨lev - 1, by have := h27.2; omega⟩
      refine r_seq ?_
      refine r_region ?_
      refine r_p (p_move rfl) rfl ?_
      refine r_callN (xs := [.tmp 152, .const (.int .i64 3)]) (gx_own he 2 (by decide) vn sa hin) cb49 [0] [(false, 0), (true, 1), (false, 2)] [0, 153] rfl rfl rfl rfl rfl rfl rfl rfl (fun _ _ => rfl) (fun _ _ _ => rfl) rfl (fun ⟨t1, s2⟩ ht1 => ?_)
      dsimp only at ht1 ⊢
      have hi2b : GInv s2 := hia.same ht1.keep
      refine r_bslice1 eTx t1 Tryz.underlying46 t48 rfl (by decide) (by decide) rfl rfl rfl rfl fun v154 => ?_
      refine r_p (p_build (parts := [(0, .const (.int .i64 4)), (2, .tmp 154)]) t53 pl53 rfl rfl) rfl ?_
      refine r_alloc t53 rfl rfl fun b14 => ?_
      refine r_store_all (k := 14) t53 rfl rfl rfl rfl rfl rfl ?_
      refine r_nil ?_
      refine r_seq ?_
      refine r_region ?_
      refine r_p (p_move rfl) rfl ?_
      refine r_p (p_move rfl) rfl ?_
      refine r_p (p_bin rfl rfl (b_add (c := 4 - (lv : Int)) (by rw [show 4 - ((lv + 1 : Nat) : Int) + 1 = 4 - (lv : Int) by omega]; exact w_i64 (by omega) (by omega)))) rfl ?_
      refine r_callN (xs := [.tmp 156, .tmp 158]) (ih lv rfl s2 vn hi2b) cb32 [0, 1] [(false, 0), (false, 2)] [0, 1, 61, 62] rfl rfl rfl rfl (by rw [show s2.names = sa.names from ht1.keep.1]; rfl) rfl rfl rfl (fun _ _ => rfl) (fun _ _ _ => rfl) rfl (fun ⟨vb1, l1, s3, vn2⟩ hl1 => ?_)
      dsimp only at hl1 ⊢
      have hi3 : GInv s3 := (hl1.1.inv hi2b).inv
      obtain ⟨j6, s4, hj6⟩ : ∃ a b, gN e.c.l 2 s3 = (a, b) := ⟨_, _, rfl⟩
      refine r_p (p_field0 fo53_3 rfl) rfl ?_
      refine r_store_row (k := 14) t51 rfl rfl rfl rfl rfl rfl rfl rfl ?_
      refine r_nil ?_
      refine r_seq ?_
      refine r_seq ?_
      refine r_region ?_
      refine r_p (p_move rfl) rfl ?_
      refine r_callN (xs := [.tmp 161, .const (.int .i64 2)]) (gnext_spec e.g e.vl vn2 e.vf e.c he.hl he.hlo 2 (by decide) s3) cb31 [0] [(false, 0)] [0] rfl rfl rfl rfl rfl rfl rfl rfl (fun _ _ => rfl) (fun _ _ _ => rfl) rfl (fun _ _ => ?_)
      rw [hj6]
      dsimp only
      refine r_p (p_bin rfl rfl b_eq) rfl ?_
      refine r_nil ?_
      refine r_cond rfl (fun h28 => ?_) (fun h28 => ?_)
      ·(try simp only [decide_eq_true_eq, decide_eq_false_iff_not, Bool.and_eq_true, Bool.or_eq_true, Bool.and_eq_false_iff, Bool.or_eq_false_iff, Bool.not_eq_true, Bool.not_eq_false, Bool.not_eq_true', Bool.not_eq_false', Bool.not_not, bne_iff_ne, beq_iff_eq] at h28)
       have hj6e : j6 = 1 := h28
       refine r_region ?_
       refine r_p (p_move rfl) rfl ?_
       refine r_p (p_move rfl) rfl ?_
       refine r_p (p_bin rfl rfl (b_add (c := 4 - (lv : Int)) (by rw [show 4 - ((lv + 1 : Nat) : Int) + 1 = 4 - (lv : Int) by omega]; exact w_i64 (by omega) (by omega)))) rfl ?_
       refine r_callN (xs := [.tmp 164, .tmp 166]) (ih lv rfl s4 vn2 (hi3.same (gN_st2 hj6))) cb32 [0, 1] [(false, 0), (false, 2)] [0, 1, 63, 64] rfl rfl rfl rfl (by rw [show s4.names = s3.names from (gN_st2 hj6).1]; rfl) rfl rfl rfl (fun _ _ => rfl) (fun _ _ _ => rfl) rfl (fun ⟨vb2, l2, s5, vn3⟩ hl2 => ?_)
       dsimp only at hl2 ⊢
       refine r_p (p_field0 fo53_4 rfl) rfl ?_
       refine r_store_row (k := 14) t51 rfl rfl rfl rfl rfl rfl rfl rfl ?_
       refine r_nil ?_
       refine r_region ?_
       refine r_p (p_move rfl) rfl ?_
       refine r_p (p_loadA t53 rfl rfl rfl (g_all (k := 14) rfl)) rfl ?_
       refine r_bslice1 eTy (.mk 4 oNil v154 [t1] vb1 l1 vb2 l2) Tryz.underlying51 t53 rfl (by decide) (by decide) rfl rfl rfl rfl fun v171 => ?_
       refine r_append 60 Tryz.underlying51 t53 rfl (by decide) (fun _ => rfl) (fun _ => rfl) rfl rfl rfl (hs_own (k := 171) rfl) (by simp only [List.length_append, List.length_cons, List.length_nil]; omega) (by unfold maxLen; simp only [List.length_append, List.length_cons, List.length_nil]; omega) rfl fun v172 => ?_
       refine r_p (p_assign rfl) rfl ?_
       refine r_nil ?_
       refine r_region ?_
       refine r_p (p_move rfl) rfl ?_
       refine r_p (p_bin rfl rfl (b_add (by first | exact w_i64 (by omega) (by omega) | rfl))) rfl ?_
       refine r_p (p_assign rfl) rfl ?_
       refine r_nil ?_
       have hg1 : G1r e.c (lv + 1) k sa (erYs [.mk 4 oNil v154 [t1] vb1 l1 vb2 l2]) (s5) := h5 ▸ .iff1 ht1 hl1.1 (hj6e ▸ hj6) hl2.1
       have hkp := hg1.inv hia
       refine r_collect 40 [40, 154, 153, 61, 62, 63, 64] (C := ysA (out ++ [.mk 4 oNil v154 [t1] vb1 l1 vb2 l2])) rfl sti1_all ?_
       refine r_here ⟨i + 1, v172, out ++ [.mk 4 oNil v154 [t1] vb1 l1 vb2 l2], s5, vn3⟩ ⟨⟨by dsimp only; omega, hkp.inv, by dsimp only; rw [List.length_append]; simp only [List.length_cons, List.length_nil]; omega, by dsimp only; rw [erYs_app]; exact gl_next hi2 hleft hk hg1 n4⟩, by dsimp only; omega⟩ rfl rfl rfl
      ·(try simp only [decide_eq_true_eq, decide_eq_false_iff_not, Bool.and_eq_true, Bool.or_eq_true, Bool.and_eq_false_iff, Bool.or_eq_false_iff, Bool.not_eq_true, Bool.not_eq_false, Bool.not_eq_true', Bool.not_eq_false', Bool.not_not, bne_iff_ne, beq_iff_eq] at h28)
       have hj6e : j6 ≠ 1 := h28
       refine r_skip ?_
       refine r_region ?_
       refine r_p (p_move rfl) rfl ?_
       refine r_p (p_loadA t53 rfl rfl rfl (g_all (k := 14) rfl)) rfl ?_
       refine r_bslice1 eTy (.mk 4 oNil v154 [t1] vb1 l1 nilS []) Tryz.underlying51 t53 rfl (by decide) (by decide) rfl rfl rfl rfl fun v171 => ?_
       refine r_append 60 Tryz.underlying51 t53 rfl (by decide) (fun _ => rfl) (fun _ => rfl) rfl rfl rfl (hs_own (k := 171) rfl) (by simp only [List.length_append, List.length_cons, List.length_nil]; omega) (by unfold maxLen; simp only [List.length_append, List.length_cons, List.length_nil]; omega) rfl fun v172 => ?_
       refine r_p (p_assign rfl) rfl ?_
       refine r_nil ?_
       refine r_region ?_
       refine r_p (p_move rfl) rfl ?_
       refine r_p (p_bin rfl rfl (b_add (by first | exact w_i64 (by omega) (by omega) | rfl))) rfl ?_
       refine r_p (p_assign rfl) rfl ?_
       refine r_nil ?_
       have hg1 : G1r e.c (lv + 1) k sa (erYs [.mk 4 oNil v154 [t1] vb1 l1 nilS []]) (s4) := h5 ▸ .iff0 ht1 hl1.1 hj6 hj6e
       have hkp := hg1.inv hia
       refine r_collect 40 [40, 154, 153, 61, 62] (C := ysA (out ++ [.mk 4 oNil v154 [t1] vb1 l1 nilS []])) rfl sti0_all ?_
       refine r_here ⟨i + 1, v172, out ++ [.mk 4 oNil v154 [t1] vb1 l1 nilS []], s4, vn2⟩ ⟨⟨by dsimp only; omega, hkp.inv, by dsimp only; rw [List.length_append]; simp only [List.length_cons, List.length_nil]; omega, by dsimp only; rw [erYs_app]; exact gl_next hi2 hleft hk hg1 n4⟩, by dsimp only; omega⟩ rfl (by dsimp only; rw [show s4.names = s3.names from (gN_st2 hj6).1]; rfl) rfl
     ·(try simp only [decide_eq_true_eq, decide_eq_false_iff_not, Bool.and_eq_true, Bool.or_eq_true, Bool.and_eq_false_iff, Bool.or_eq_false_iff, Bool.not_eq_true, Bool.not_eq_false, Bool.not_eq_true', Bool.not_eq_false', Bool.not_not, bne_iff_ne, beq_iff_eq] at h27)
      have q5 : ¬ (k = 6 ∧ 1 ≤ lev) := by rintro ⟨a, b⟩; rcases h27 with h | h; exact h a; omega
      refine r_seq ?_
      refine r_region ?_
      refine r_p (p_move rfl) rfl ?_
      refine r_p (p_bin rfl rfl b_eq) rfl ?_
      refine r_p (p_move rfl) rfl ?_
      refine r_gp [] rfl rfl trivial (fun hg29 => p_move rfl) rfl ?_
      refine r_gp [(177, _)] rfl rfl ⟨rfl, trivial⟩ (fun hg30 => p_bin rfl rfl b_lt) rfl ?_
      refine r_p (p_pick rfl rfl rfl (by first | exact pick_and | exact pick_or |  rfl)) rfl ?_
      refine r_p (p_move rfl) rfl ?_
      refine r_gp [] rfl rfl trivial (fun hg31 => p_move rfl) rfl ?_
      refine r_gp [(181, _)] rfl rfl ⟨rfl, trivial⟩ (fun hg32 => p_nilCheck rfl) rfl ?_
      refine r_gp [(181, _), (182, _)] rfl rfl ⟨rfl, rfl, trivial⟩ (fun hg33 => p_field0 fo76_5 rfl) rfl ?_
      refine r_gp [(181, _), (182, _), (183, _)] rfl rfl ⟨rfl, rfl, rfl, trivial⟩ (fun hg34 => p_load1 t3 rfl rfl (g_row1 (k := 0) rfl rfl)) rfl ?_
      refine r_gp [(181, _), (182, _), (183, _), (184, _)] rfl rfl ⟨rfl, rfl, rfl, rfl, trivial⟩ (fun hg35 => p_move rfl) rfl ?_
      refine r_gp [(181, _), (182, _), (183, _), (184, _), (185, _)] rfl rfl ⟨rfl, rfl, rfl, rfl, rfl, trivial⟩ (fun hg36 => p_len_sl Tryz.underlying58 rfl (hs_own (k := 43) rfl)) rfl ?_
      refine r_gp [(181, _), (182, _), (183, _), (184, _), (185, _), (186, _)] rfl rfl ⟨rfl, rfl, rfl, rfl, rfl, rfl, trivial⟩ (fun hg37 => p_bin rfl rfl b_lt) rfl ?_
      refine r_p (p_pick rfl rfl rfl (by first | exact pick_and | exact pick_or |  rfl)) rfl ?_
      refine r_p (p_assign rfl) rfl ?_
      refine r_nil ?_
      refine r_cond rfl (fun h38 => ?_) (fun h38 => ?_)
      ·(try simp only [decide_eq_true_eq, decide_eq_false_iff_not, Bool.and_eq_true, Bool.or_eq_true, Bool.and_eq_false_iff, Bool.or_eq_false_iff, Bool.not_eq_true, Bool.not_eq_false, Bool.not_eq_true', Bool.not_eq_false', Bool.not_not, bne_iff_ne, beq_iff_eq] at h38)
       have h7 : k = 7 ∧ sa.vars < 8 := ⟨h38.1.1, h38.2⟩
       obtain ⟨lv, rfl⟩ : ∃ lv, lev = lv + 2 := ⟨lev - 2, by have := h38.1.2; omega⟩
       obtain ⟨nm, hnm, hnm1, hnm2⟩ := fresh_at hia.v0 h7.2
       obtain ⟨j7, s2, hj7⟩ : ∃ a b, gN e.c.l 5 { sa with vars := sa.vars + 1 } = (a, b) := ⟨_, _, rfl⟩
       have hjb7 := gN_bd (by decide) hj7
       have hi2b : GInv s2 := GInv.same (hia.var h7.2) (gN_st2 hj7)
       refine r_seq ?_
       refine r_region ?_
       refine r_p (p_move rfl) rfl ?_
       refine r_p (p_move rfl) rfl ?_
       refine r_p (p_nilCheck rfl) rfl ?_
       refine r_p (p_field0 fo76_5 rfl) rfl ?_
       refine r_p (p_load1 t3 rfl rfl (g_row1 (k := 0) rfl rfl)) rfl ?_
       refine r_p (p_idx_sl (j := sa.vars.toNat) Tryz.underlying58 t9 rfl rfl (hs_own (k := 43) rfl) hnm2 hnm1) rfl ?_
       refine r_p (p_load1 t9 rfl rfl (g_el' (hs_own (k := 43) rfl) (by intro _; rfl) hnm (by rfl))) rfl ?_
       refine r_p (p_assign rfl) rfl ?_
       refine r_nil ?_
       refine r_seq ?_
       refine r_region ?_
       refine r_p (p_move rfl) rfl ?_
       refine r_p (p_nilCheck rfl) rfl ?_
       refine r_p (p_field0 fo76_5 rfl) rfl ?_
       refine r_p (p_load1 t3 rfl rfl (g_row1 (k := 0) rfl rfl)) rfl ?_
       refine r_p (p_bin rfl rfl (b_add (by first | exact w_i64 (by omega) (by omega) | rfl))) rfl ?_
       refine r_p (p_nilCheck rfl) rfl ?_
       refine r_p (p_field0 fo76_5 rfl) rfl ?_
       refine r_store_row (k := 0) t3 rfl rfl rfl rfl rfl rfl rfl rfl ?_
       refine r_nil ?_
       refine r_seq ?_
       refine r_region ?_
       refine r_p (p_move rfl) rfl ?_
       refine r_p (p_build (parts := [(0, .const (.int .i64 2)), (2, .tmp 203)]) t48 pl48 rfl rfl) rfl ?_
       refine r_alloc t48 rfl rfl fun b16 => ?_
       refine r_store_all (k := 16) t48 rfl rfl rfl rfl rfl rfl ?_
       refine r_nil ?_
       refine r_seq ?_
       refine r_region ?_
       refine r_p (p_move rfl) rfl ?_
       refine r_p (p_move rfl) rfl ?_
       refine r_p (p_move rfl) rfl ?_
       refine r_callN (xs := [.tmp 207, .const (.int .i64 5)]) (gnext_spec e.g e.vl vn e.vf e.c he.hl he.hlo (5) (by decide) ({ sa with vars := sa.vars + 1 })) cb31 [0] [(false, 0)] [0] rfl rfl rfl rfl rfl rfl rfl rfl (fun _ _ => rfl) (fun _ _ _ => rfl) rfl (fun _ _ => ?_)
       rw [hj7]
       dsimp only
       refine r_p (p_conv Tryz.underlying3 Tryz.underlying36 rfl (by first | exact w_u32 (by omega) (by omega) | rfl)) rfl ?_
       refine r_p (p_build (parts := [(0, .const (.int .i64 1)), (1, .tmp 209)]) t48 pl48 rfl rfl) rfl ?_
       refine r_bslice1 eTx (tNum j7) Tryz.underlying46 t48 rfl (by decide) (by decide) rfl rfl rfl rfl fun v211 => ?_
       refine r_p (p_build (parts := [(0, .const (.int .i64 1)), (1, .tmp 206), (2, .tmp 211)]) t53 pl53 rfl rfl) rfl ?_
       refine r_bslice1 eTy (wVar nm v211 j7) Tryz.underlying51 t53 rfl (by decide) (by decide) rfl rfl rfl rfl fun v213 => ?_
       refine r_append 60 Tryz.underlying51 t53 rfl (by decide) (fun _ => rfl) (fun _ => rfl) rfl rfl rfl (hs_own (k := 213) rfl) (by simp only [List.length_append, List.length_cons, List.length_nil]; omega) (by unfold maxLen; simp only [List.length_append, List.length_cons, List.length_nil]; omega) rfl fun v214 => ?_
       refine r_p (p_assign rfl) rfl ?_
       refine r_nil ?_
       refine r_seq ?_
       refine r_region ?_
       refine r_p (p_loadA t48 rfl rfl rfl (g_all (k := 16) rfl)) rfl ?_
       refine r_bslice1 eTx (tName nm) Tryz.underlying46 t48 rfl (by decide) (by decide) rfl rfl rfl rfl fun v216 => ?_
       refine r_p (p_build (parts := [(0, .const (.int .i64 5)), (2, .tmp 216)]) t53 pl53 rfl rfl) rfl ?_
       refine r_alloc t53 rfl rfl fun b17 => ?_
       refine r_store_all (k := 17) t53 rfl rfl rfl rfl rfl rfl ?_
       refine r_nil ?_
       refine r_seq ?_
       refine r_region ?_
       refine r_p (p_move rfl) rfl ?_
       refine r_p (p_move rfl) rfl ?_
       refine r_p (p_bin rfl rfl (b_add (c := 4 - ((lv + 1 : Nat) : Int)) (by rw [show 4 - ((lv + 2 : Nat) : Int) + 1 = 4 - ((lv + 1 : Nat) : Int) by omega]; exact w_i64 (by omega) (by omega)))) rfl ?_
       refine r_callN (xs := [.tmp 218, .tmp 220]) (ih (lv + 1) rfl s2 vn hi2b) cb32 [0, 1] [(false, 0), (false, 2)] [0, 1, 61, 62] rfl rfl rfl rfl (by rw [show s2.names = sa.names from (gN_st2 hj7).1]; rfl) rfl rfl rfl (fun _ _ => rfl) (fun _ _ _ => rfl) rfl (fun ⟨vb1, l1, s3, vn2⟩ hl1 => ?_)
       dsimp only at hl1 ⊢
       have hi3 : GInv s3 := (hl1.1.inv hi2b).inv
       refine r_p (p_field0 fo53_3 rfl) rfl ?_
       refine r_store_row (k := 17) t51 rfl rfl rfl rfl rfl rfl rfl rfl ?_
       refine r_nil ?_
       refine r_seq ?_
       refine r_region ?_
       refine r_p (p_field0 fo53_3 rfl) rfl ?_
       refine r_p (p_load1 t51 rfl rfl (g_row1 (k := 17) rfl rfl)) rfl ?_
       refine r_p (p_move rfl) rfl ?_
       refine r_p (p_loadA t48 rfl rfl rfl (g_all (k := 16) rfl)) rfl ?_
       refine r_p (p_build (parts := [(0, .const (.int .i64 1)), (1, .const (.int .u32 1))]) t48 pl48 rfl rfl) rfl ?_
       refine r_bslice eTx [tName nm, tNum 1] (parts := [(0, .tmp 226), (1, .tmp 227)]) Tryz.underlying46 t48 rfl (by decide) (by intro _; rfl) rfl (by decide) (by decide) rfl rfl rfl rfl fun v228 => ?_
       refine r_p (p_build (parts := [(0, .const (.int .i64 7)), (2, .const (.string (ByteArray.mk #[45]))), (3, .tmp 228)]) t48 pl48 rfl rfl) rfl ?_
       refine r_bslice1 eTx (tBin oSub v228 (tName nm) (tNum 1)) Tryz.underlying46 t48 rfl (by decide) (by decide) rfl rfl rfl rfl fun v230 => ?_
       refine r_p (p_build (parts := [(0, .const (.int .i64 2)), (1, .tmp 225), (2, .tmp 230)]) t53 pl53 rfl rfl) rfl ?_
       refine r_bslice1 eTy (wDown nm v230 v228) Tryz.underlying51 t53 rfl (by decide) (by decide) rfl rfl rfl rfl fun v232 => ?_
       refine r_append 61 Tryz.underlying51 t53 rfl (by decide) (fun _ => rfl) (fun _ => rfl) rfl rfl rfl (hs_own (k := 232) rfl) (by have := hl1.2; simp only [List.length_singleton]; omega) (by unfold maxLen; have := hl1.2; simp only [List.length_singleton]; omega) rfl fun v233 => ?_
       refine r_p (p_field0 fo53_3 rfl) rfl ?_
       refine r_store_row (k := 17) t51 rfl rfl rfl rfl rfl rfl rfl rfl ?_
       refine r_nil ?_
       refine r_seq ?_
       refine r_region ?_
       refine r_p (p_move rfl) rfl ?_
       refine r_p (p_move rfl) rfl ?_
       refine r_p (p_nilCheck rfl) rfl ?_
       refine r_p (p_field0 fo76_4 rfl) rfl ?_
       refine r_p (p_load1 t58 rfl rfl (g_row1 (k := 0) rfl rfl)) rfl ?_
       refine r_p (p_move rfl) rfl ?_
       refine r_bslice1 eS nm Tryz.underlying58 t9 rfl (by decide) (by decide) rfl rfl rfl rfl fun v241 => ?_
       refine r_append 1 Tryz.underlying58 t9 rfl (by decide) (fun _ => rfl) (fun _ => rfl) rfl rfl rfl (hs_own (k := 241) rfl) (by have := hi3.n; simp only [List.length_singleton]; omega) (by unfold maxLen; have := hi3.n; simp only [List.length_singleton]; omega) rfl fun v242 => ?_
       refine r_p (p_nilCheck rfl) rfl ?_
       refine r_p (p_field0 fo76_4 rfl) rfl ?_
       refine r_store_row (k := 0) t58 rfl rfl rfl rfl rfl rfl rfl rfl ?_
       refine r_nil ?_
       refine r_region ?_
       refine r_p (p_move rfl) rfl ?_
       refine r_p (p_loadA t53 rfl rfl rfl (g_all (k := 17) rfl)) rfl ?_
       refine r_bslice1 eTy (wLoop nm v216 v233 (l1 ++ [wDown nm v230 v228])) Tryz.underlying51 t53 rfl (by decide) (by decide) rfl rfl rfl rfl fun v247 => ?_
       refine r_append 60 Tryz.underlying51 t53 rfl (by decide) (fun _ => rfl) (fun _ => rfl) rfl rfl rfl (hs_own (k := 247) rfl) (by simp only [List.length_append, List.length_cons, List.length_nil]; omega) (by unfold maxLen; simp only [List.length_append, List.length_cons, List.length_nil]; omega) rfl fun v248 => ?_
       refine r_p (p_assign rfl) rfl ?_
       refine r_nil ?_
       refine r_region ?_
       refine r_p (p_move rfl) rfl ?_
       refine r_p (p_bin rfl rfl (b_add (by first | exact w_i64 (by omega) (by omega) | rfl))) rfl ?_
       refine r_p (p_assign rfl) rfl ?_
       refine r_nil ?_
       have hg1 : G1r e.c (lv + 2) k sa (erYs [wVar nm v211 j7, wLoop nm v216 v233 (l1 ++ [wDown nm v230 v228])]) ({ s3 with names := s3.names ++ [nm] }) := (by rw [er_whi]; exact h7.1 ▸ .whi hnm h7.2 hj7 hl1.1)
       have hkp := hg1.inv hia
       refine r_collect 40 [40, 211, 216, 62, 228, 230, 61] (C := ysA (out ++ [wVar nm v211 j7, wLoop nm v216 v233 (l1 ++ [wDown nm v230 v228])])) rfl stw_all ?_
       refine r_here ⟨i + 1, v248, out ++ [wVar nm v211 j7, wLoop nm v216 v233 (l1 ++ [wDown nm v230 v228])], { s3 with names := s3.names ++ [nm] }, v242⟩ ⟨⟨by dsimp only; omega, hkp.inv, by dsimp only; rw [List.length_append]; simp only [List.length_cons, List.length_nil]; omega, by dsimp only; rw [erYs_app]; exact gl_next hi2 hleft hk hg1 n4⟩, by dsimp only; omega⟩ rfl (by dsimp only; rw [show out ++ [wVar nm v211 j7, wLoop nm v216 v233 (l1 ++ [wDown nm v230 v228])] = out ++ [wVar nm v211 j7] ++ [wLoop nm v216 v233 (l1 ++ [wDown nm v230 v228])] from (List.append_assoc out [_] [_]).symm]; rfl) rfl
      ·(try simp only [decide_eq_true_eq, decide_eq_false_iff_not, Bool.and_eq_true, Bool.or_eq_true, Bool.and_eq_false_iff, Bool.or_eq_false_iff, Bool.not_eq_true, Bool.not_eq_false, Bool.not_eq_true', Bool.not_eq_false', Bool.not_not, bne_iff_ne, beq_iff_eq] at h38)
       have q7 : ¬ (k = 7 ∧ 2 ≤ lev ∧ sa.vars < 8) := by rintro ⟨a, b, c⟩; rcases h38 with (h | h) | h; exact h a; omega; exact h c
       refine r_seq ?_
       refine r_region ?_
       refine r_p (p_move rfl) rfl ?_
       refine r_p (p_bin rfl rfl b_eq) rfl ?_
       refine r_p (p_move rfl) rfl ?_
       refine r_split (t := 252) rfl (fun h39 => ?_) (fun h39 => ?_)
       ·(try simp only [decide_eq_true_eq, decide_eq_false_iff_not, Bool.and_eq_true, Bool.or_eq_true, Bool.and_eq_false_iff, Bool.or_eq_false_iff, Bool.not_eq_true, Bool.not_eq_false, Bool.not_eq_true', Bool.not_eq_false', Bool.not_not, bne_iff_ne, beq_iff_eq] at h39)
        have h8 : k = 8 := h39
        obtain ⟨j8, sb, hj8⟩ : ∃ a b, gN e.c.l 3 sa = (a, b) := ⟨_, _, rfl⟩
        have hnb : sb.names = sa.names := (gN_st2 hj8).1
        refine r_gyes rfl rfl ?_
        refine r_p (p_move rfl) rfl ?_
        refine r_gyes rfl rfl ?_
        refine r_callN (xs := [.tmp 253, .const (.int .i64 3)]) (gnext_spec e.g e.vl vn e.vf e.c he.hl he.hlo (3) (by decide) (sa)) cb31 [0] [(false, 0)] [0] rfl rfl rfl rfl rfl rfl rfl rfl (fun _ _ => rfl) (fun _ _ _ => rfl) rfl (fun _ _ => ?_)
        rw [hj8]
        dsimp only
        refine r_gyes rfl rfl ?_
        refine r_p (p_bin rfl rfl b_eq) rfl ?_
        refine r_p (p_pick rfl rfl rfl (by first | exact pick_and | exact pick_or |  rfl)) rfl ?_
        refine r_p (p_assign rfl) rfl ?_
        refine r_nil ?_
        refine r_cond rfl (fun h40 => ?_) (fun h40 => ?_)
        ·(try simp only [decide_eq_true_eq, decide_eq_false_iff_not, Bool.and_eq_true, Bool.or_eq_true, Bool.and_eq_false_iff, Bool.or_eq_false_iff, Bool.not_eq_true, Bool.not_eq_false, Bool.not_eq_true', Bool.not_eq_false', Bool.not_not, bne_iff_ne, beq_iff_eq] at h40)
         have h80 : j8 = 0 := h40.2
         refine r_region ?_
         refine r_p (p_move rfl) rfl ?_
         refine r_p (p_move rfl) rfl ?_
         refine r_callN (xs := [.tmp 258, .const (.int .i64 4)]) (gx_own he 3 (by decide) vn (sb) (by rw [hnb]; exact hin)) cb49 [0] [(false, 0), (true, 1), (false, 2)] [0, 259] rfl rfl rfl rfl rfl (by rw [hnb]; rfl) rfl rfl (fun _ _ => rfl) (fun _ _ _ => rfl) rfl (fun ⟨t1, s2⟩ ht1 => ?_)
         dsimp only at ht1 ⊢
         refine r_bslice1 eTx t1 Tryz.underlying46 t48 rfl (by decide) (by decide) rfl rfl rfl rfl fun v260 => ?_
         refine r_p (p_build (parts := [(0, .const (.int .i64 6)), (2, .tmp 260)]) t53 pl53 rfl rfl) rfl ?_
         refine r_bslice1 eTy (.mk 6 oNil v260 [t1] nilS [] nilS []) Tryz.underlying51 t53 rfl (by decide) (by decide) rfl rfl rfl rfl fun v262 => ?_
         refine r_append 60 Tryz.underlying51 t53 rfl (by decide) (fun _ => rfl) (fun _ => rfl) rfl rfl rfl (hs_own (k := 262) rfl) (by simp only [List.length_append, List.length_cons, List.length_nil]; omega) (by unfold maxLen; simp only [List.length_append, List.length_cons, List.length_nil]; omega) rfl fun v263 => ?_
         refine r_p (p_assign rfl) rfl ?_
         refine r_nil ?_
         refine r_region ?_
         refine r_p (p_move rfl) rfl ?_
         refine r_p (p_bin rfl rfl (b_add (by first | exact w_i64 (by omega) (by omega) | rfl))) rfl ?_
         refine r_p (p_assign rfl) rfl ?_
         refine r_nil ?_
         have hg1 : G1r e.c (lev) k sa (erYs [.mk 6 oNil v260 [t1] nilS [] nilS []]) (s2) := h8 ▸ .ret (h80 ▸ hj8) ht1
         have hkp := hg1.inv hia
         refine r_collect 40 [40, 260, 259] (C := ysA (out ++ [.mk 6 oNil v260 [t1] nilS [] nilS []])) rfl st1_all ?_
         refine r_here ⟨i + 1, v263, out ++ [.mk 6 oNil v260 [t1] nilS [] nilS []], s2, vn⟩ ⟨⟨by dsimp only; omega, hkp.inv, by dsimp only; rw [List.length_append]; simp only [List.length_cons, List.length_nil]; omega, by dsimp only; rw [erYs_app]; exact gl_next hi2 hleft hk hg1 n4⟩, by dsimp only; omega⟩ rfl (by dsimp only; rw [show s2.names = sa.names from ht1.keep.1.trans (gN_st2 hj8).1]; rfl) rfl
        ·(try simp only [decide_eq_true_eq, decide_eq_false_iff_not, Bool.and_eq_true, Bool.or_eq_true, Bool.and_eq_false_iff, Bool.or_eq_false_iff, Bool.not_eq_true, Bool.not_eq_false, Bool.not_eq_true', Bool.not_eq_false', Bool.not_not, bne_iff_ne, beq_iff_eq] at h40)
         have h80 : j8 ≠ 0 := by simpa using h40
         refine r_seq ?_
         refine r_draw [265, 266, 267, 268, 269, 270, 271, 272, 273, 274, 275, 276, 277, 278, 279, 264] _ rfl (stg_end (V := [(0, 265, _), (1, 266, _), (2, 267, _), (3, 268, _), (4, 269, _), (5, 270, _), (6, 271, _), (7, 272, _), (8, 273, _), (9, 274, _), (10, 275, _), (11, 276, _), (12, 277, _), (13, 278, _), (14, 279, _), (15, 264, _)]) [0, 1, 2, 3, 4, 5, 6, 7, 8, 9, 10, 11, 12, 13, 14, 15] rfl rfl (prs_cons (pri rfl (p_move rfl)) (prs_cons (pri rfl (p_bin rfl rfl b_eq)) (prs_cons (pri rfl (p_move rfl)) (prs_cons (prig_s [] rfl rfl rfl trivial (fun hg41 => p_move rfl)) (prs_cons (prig_s [(268, _)] rfl rfl rfl ⟨rfl, trivial⟩ (fun hg42 => p_nilCheck rfl)) (prs_cons (prig_s [(269, _)] rfl rfl rfl ⟨rfl, trivial⟩ (fun hg43 => p_field0 fo76_6 rfl)) (prs_cons (prig_s [(270, _)] rfl rfl rfl ⟨rfl, trivial⟩ (fun hg44 => p_load1 t3 rfl rfl (g_row1 (k := 0) rfl rfl))) (prs_cons (prig_s [(271, _)] rfl rfl rfl ⟨rfl, trivial⟩ (fun hg45 => p_bin rfl rfl (b_add (by first | exact w_i64 (by omega) (by omega) | rfl)))) (prs_cons (prig_s [] rfl rfl rfl trivial (fun hg46 => p_move rfl)) (prs_cons (prig_s [(273, _)] rfl rfl rfl ⟨rfl, trivial⟩ (fun hg47 => p_nilCheck rfl)) (prs_cons (prig_s [(274, _)] rfl rfl rfl ⟨rfl, trivial⟩ (fun hg48 => p_field0 fo76_7 rfl)) (prs_cons (prig_s [(275, _)] rfl rfl rfl ⟨rfl, trivial⟩ (fun hg49 => p_load1 t27 rfl rfl (g_row1 (k := 0) rfl rfl))) (prs_cons (prig_s [(276, _)] rfl rfl rfl ⟨rfl, trivial⟩ (fun hg50 => p_len_sl Tryz.underlying27 rfl (hs_sl (k := 3) rfl))) (prs_cons (prig_s [(272, _), (277, _)] rfl rfl rfl ⟨rfl, rfl, trivial⟩ (fun hg51 => p_bin rfl rfl b_lt)) (prs_cons (pri rfl (p_pick rfl rfl rfl (by first | exact pick_and | exact pick_or |  rfl))) (prs_cons (pri rfl (p_assign rfl)) prs_nil)))))))))))))))) rfl rfl rfl ?_)
         refine r_cond rfl (fun h52 => ?_) (fun h52 => ?_)
         ·simp only [Bool.and_eq_true, decide_eq_true_eq] at h52; omega
         ·(try simp only [decide_eq_true_eq, decide_eq_false_iff_not, Bool.and_eq_true, Bool.or_eq_true, Bool.and_eq_false_iff, Bool.or_eq_false_iff, Bool.not_eq_true, Bool.not_eq_false, Bool.not_eq_true', Bool.not_eq_false', Bool.not_not, bne_iff_ne, beq_iff_eq] at h52)
          have q9 : ¬ (k = 9 ∧ e.c.me + 1 < e.F.length) := by rintro ⟨h1, h2⟩; omega
          refine r_region ?_
          refine r_p (p_move rfl) rfl ?_
          refine r_p (p_move rfl) rfl ?_
          refine r_callN (xs := [.tmp 45, .const (.int .i64 4)]) (gx_own he 3 (by decide) vn (sb) (by rw [hnb]; exact hin)) cb49 [0] [(false, 0), (true, 1), (false, 2)] [0, 46] rfl rfl rfl rfl rfl (by rw [hnb]; rfl) rfl rfl (fun _ _ => rfl) (fun _ _ _ => rfl) rfl (fun ⟨t1, s2⟩ ht1 => ?_)
          dsimp only at ht1 ⊢
          refine r_bslice1 eTx t1 Tryz.underlying46 t48 rfl (by decide) (by decide) rfl rfl rfl rfl fun v47 => ?_
          refine r_p (p_build (parts := [(0, .const (.int .i64 7)), (2, .tmp 47)]) t53 pl53 rfl rfl) rfl ?_
          refine r_bslice1 eTy (yOut v47 t1) Tryz.underlying51 t53 rfl (by decide) (by decide) rfl rfl rfl rfl fun v49 => ?_
          refine r_append 60 Tryz.underlying51 t53 rfl (by decide) (fun _ => rfl) (fun _ => rfl) rfl rfl rfl (hs_own (k := 49) rfl) (by simp only [List.length_append, List.length_cons, List.length_nil]; omega) (by unfold maxLen; simp only [List.length_append, List.length_cons, List.length_nil]; omega) rfl fun v50 => ?_
          refine r_p (p_assign rfl) rfl ?_
          refine r_nil ?_
          refine r_region ?_
          refine r_p (p_move rfl) rfl ?_
          refine r_p (p_bin rfl rfl (b_add (by first | exact w_i64 (by omega) (by omega) | rfl))) rfl ?_
          refine r_p (p_assign rfl) rfl ?_
          refine r_nil ?_
          have hg1 : G1r e.c (lev) k sa (erYs [yOut v47 t1]) (s2) := .out q2 q3 q4.1 q4.2 (fun h => q5 h) (fun h => q7 h) (.inr ⟨h8, j8, h80, hj8⟩) (fun h => q9 ⟨h.1, by rw [← hfl]; exact h.2⟩) ht1
          have hkp := hg1.inv hia
          refine r_collect 40 [40, 47, 46] (C := ysA (out ++ [yOut v47 t1])) rfl st1_all ?_
          refine r_here ⟨i + 1, v50, out ++ [yOut v47 t1], s2, vn⟩ ⟨⟨by dsimp only; omega, hkp.inv, by dsimp only; rw [List.length_append]; simp only [List.length_cons, List.length_nil]; omega, by dsimp only; rw [erYs_app]; exact gl_next hi2 hleft hk hg1 n4⟩, by dsimp only; omega⟩ rfl (by dsimp only; rw [show s2.names = sa.names from ht1.keep.1.trans (gN_st2 hj8).1]; rfl) rfl
       ·(try simp only [decide_eq_true_eq, decide_eq_false_iff_not, Bool.and_eq_true, Bool.or_eq_true, Bool.and_eq_false_iff, Bool.or_eq_false_iff, Bool.not_eq_true, Bool.not_eq_false, Bool.not_eq_true', Bool.not_eq_false', Bool.not_not, bne_iff_ne, beq_iff_eq] at h39)
        have h8 : ¬ k = 8 := h39
        refine r_gno rfl rfl rfl rfl ?_
        refine r_gno rfl rfl rfl rfl ?_
        refine r_gno rfl rfl rfl rfl ?_
        refine r_p (p_pick rfl rfl rfl (by first | exact pick_and | exact pick_or |  rfl)) rfl ?_
        refine r_p (p_assign rfl) rfl ?_
        refine r_nil ?_
        refine r_cond rfl (fun h53 => ?_) (fun h53 => ?_)
        ·exact absurd h53 (by simp)
        ·(try simp only [decide_eq_true_eq, decide_eq_false_iff_not, Bool.and_eq_true, Bool.or_eq_true, Bool.and_eq_false_iff, Bool.or_eq_false_iff, Bool.not_eq_true, Bool.not_eq_false, Bool.not_eq_true', Bool.not_eq_false', Bool.not_not, bne_iff_ne, beq_iff_eq] at h53)
         refine r_seq ?_
         refine r_draw [265, 266, 267, 268, 269, 270, 271, 272, 273, 274, 275, 276, 277, 278, 279, 264] _ rfl (stg_end (V := [(0, 265, _), (1, 266, _), (2, 267, _), (3, 268, _), (4, 269, _), (5, 270, _), (6, 271, _), (7, 272, _), (8, 273, _), (9, 274, _), (10, 275, _), (11, 276, _), (12, 277, _), (13, 278, _), (14, 279, _), (15, 264, _)]) [0, 1, 2, 3, 4, 5, 6, 7, 8, 9, 10, 11, 12, 13, 14, 15] rfl rfl (prs_cons (pri rfl (p_move rfl)) (prs_cons (pri rfl (p_bin rfl rfl b_eq)) (prs_cons (pri rfl (p_move rfl)) (prs_cons (prig_s [] rfl rfl rfl trivial (fun hg54 => p_move rfl)) (prs_cons (prig_s [(268, _)] rfl rfl rfl ⟨rfl, trivial⟩ (fun hg55 => p_nilCheck rfl)) (prs_cons (prig_s [(269, _)] rfl rfl rfl ⟨rfl, trivial⟩ (fun hg56 => p_field0 fo76_6 rfl)) (prs_cons (prig_s [(270, _)] rfl rfl rfl ⟨rfl, trivial⟩ (fun hg57 => p_load1 t3 rfl rfl (g_row1 (k := 0) rfl rfl))) (prs_cons (prig_s [(271, _)] rfl rfl rfl ⟨rfl, trivial⟩ (fun hg58 => p_bin rfl rfl (b_add (by first | exact w_i64 (by omega) (by omega) | rfl)))) (prs_cons (prig_s [] rfl rfl rfl trivial (fun hg59 => p_move rfl)) (prs_cons (prig_s [(273, _)] rfl rfl rfl ⟨rfl, trivial⟩ (fun hg60 => p_nilCheck rfl)) (prs_cons (prig_s [(274, _)] rfl rfl rfl ⟨rfl, trivial⟩ (fun hg61 => p_field0 fo76_7 rfl)) (prs_cons (prig_s [(275, _)] rfl rfl rfl ⟨rfl, trivial⟩ (fun hg62 => p_load1 t27 rfl rfl (g_row1 (k := 0) rfl rfl))) (prs_cons (prig_s [(276, _)] rfl rfl rfl ⟨rfl, trivial⟩ (fun hg63 => p_len_sl Tryz.underlying27 rfl (hs_sl (k := 3) rfl))) (prs_cons (prig_s [(272, _), (277, _)] rfl rfl rfl ⟨rfl, rfl, trivial⟩ (fun hg64 => p_bin rfl rfl b_lt)) (prs_cons (pri rfl (p_pick rfl rfl rfl (by first | exact pick_and | exact pick_or |  rfl))) (prs_cons (pri rfl (p_assign rfl)) prs_nil)))))))))))))))) rfl rfl rfl ?_)
         refine r_cond rfl (fun h65 => ?_) (fun h65 => ?_)
         ·(try simp only [decide_eq_true_eq, decide_eq_false_iff_not, Bool.and_eq_true, Bool.or_eq_true, Bool.and_eq_false_iff, Bool.or_eq_false_iff, Bool.not_eq_true, Bool.not_eq_false, Bool.not_eq_true', Bool.not_eq_false', Bool.not_not, bne_iff_ne, beq_iff_eq] at h65)
          have h9 : k = 9 ∧ e.c.me + 1 < e.F.length := ⟨h65.1, by have := h65.2; omega⟩
          have hjb := gN_bnd e.c.l (n := (e.F.length : Int) - (e.c.me : Int) - 1) (by omega) sa
          obtain ⟨jf, hjf⟩ : ∃ jf : Nat, (e.c.me : Int) + 1 + (gN e.c.l ((e.F.length : Int) - (e.c.me : Int) - 1) sa).1 = (jf : Int) := ⟨((e.c.me : Int) + 1 + (gN e.c.l ((e.F.length : Int) - (e.c.me : Int) - 1) sa).1).toNat, by omega⟩
          have hjl : jf < e.F.length := by omega
          obtain ⟨f, hfj⟩ : ∃ f, e.F[jf]? = some f := ⟨_, List.getElem?_eq_getElem hjl⟩
          refine r_seq_cut (X := Tf × Gs × Nat) (fun y => y.1 ∈ e.F ∧ ∃ j, gN e.c.l ((e.F.length : Int) - (e.c.me : Int) - 1) sa = (j, y.2.1) ∧ e.c.fs[((e.c.me : Int) + 1 + j).toNat]? = some (y.1.name, y.1.ps)) (fun y => [(0, .pointer (some ⟨e.g, 0, none⟩)), (1, .int .i64 (4 - (lev : Int))), (5, sv vo), (6, .int .i64 (many : Int)), (7, .int .i64 (i : Int)), (18, .pointer (some ⟨y.2.2, 0, none⟩))]) (fun y => [(0, row e.g 76 (gRow e.vl (y.2.1) vn e.c.me e.vf)), (1, own 9 1 eS (sv vn) sa.names), (60, own 53 5 eTy (sv vo) out), (40, ysA out), (18, row y.2.2 63 (eTf y.1))]) (fun y => [(0, sl 1 eI (sv e.vl) e.c.l), (2, tfsA e.vf e.F), (3, sl 3 eTf (sv e.vf) e.F)]) ?_ (fun y hy => ?_)
          ·refine r_draw [280, 281, 282, 283, 284, 285, 286, 287, 288, 289, 290, 291, 292, 293, 294, 295, 296, 297, 298, 299, 300, 301, 302, 303, 304, 18] _ rfl (stg_alts (V := [(0, 280, _), (1, 281, _), (2, 282, _), (3, 283, _), (4, 284, _), (5, 285, _), (6, 286, _), (7, 287, _), (8, 288, _), (9, 289, _), (10, 290, _), (11, 291, _), (12, 292, _), (13, 293, _), (14, 294, _), (15, 295, _), (16, 296, _), (17, 297, _), (18, 298, _), (19, 299, _), (20, 300, _)]) [0, 1, 2, 3, 4, 5, 6, 7, 8, 9, 10, 11, 12, 13, 14, 15, 16, 17, 18, 19, 20] rfl rfl (prs_cons (pri rfl (p_move rfl)) (prs_cons (pri rfl (p_nilCheck rfl)) (prs_cons (pri rfl (p_field0 fo76_7 rfl)) (prs_cons (pri rfl (p_load1 t27 rfl rfl (g_row1 (k := 0) rfl rfl))) (prs_cons (pri rfl (p_move rfl)) (prs_cons (pri rfl (p_nilCheck rfl)) (prs_cons (pri rfl (p_field0 fo76_6 rfl)) (prs_cons (pri rfl (p_load1 t3 rfl rfl (g_row1 (k := 0) rfl rfl))) (prs_cons (pri rfl (p_bin rfl rfl (b_add (by first | exact w_i64 (by omega) (by omega) | rfl)))) (prs_cons (pri rfl (p_move rfl)) (prs_cons (pri rfl (p_move rfl)) (prs_cons (pri rfl (p_nilCheck rfl)) (prs_cons (pri rfl (p_field0 fo76_7 rfl)) (prs_cons (pri rfl (p_load1 t27 rfl rfl (g_row1 (k := 0) rfl rfl))) (prs_cons (pri rfl (p_len_sl Tryz.underlying27 rfl (hs_sl (k := 3) rfl))) (prs_cons (pri rfl (p_move rfl)) (prs_cons (pri rfl (p_nilCheck rfl)) (prs_cons (pri rfl (p_field0 fo76_6 rfl)) (prs_cons (pri rfl (p_load1 t3 rfl rfl (g_row1 (k := 0) rfl rfl))) (prs_cons (pri rfl (p_bin rfl rfl (b_sub (by first | exact w_i64 (by omega) (by omega) | rfl)))) (prs_cons (pri rfl (p_bin rfl rfl (b_sub (by first | exact w_i64 (by omega) (by omega) | rfl)))) prs_nil))))))))))))))))))))) rfl [21, 25] rfl rfl (nx_cons (nx_mem 21 [21, 20, 19, 18, 17, 16, 15, 14, 13, 12, 11, 10, 9] [22, 23, 24] (fun _ => [(22, 302, _), (23, 303, _), (24, 304, _)]) rfl rfl rfl rfl rfl rfl rfl rfl rfl (fun _ _ => rfl) rfl (ms_callN (xs := [.tmp 289, .tmp 300]) (gnext_spec e.g e.vl vn e.vf e.c he.hl he.hlo (((e.F.length : Int) - (e.c.me : Int) - 1)) (by omega) (sa)) cb31 [0] [(false, 0)] [0] rfl rfl rfl rfl rfl rfl rfl rfl (fun _ _ => rfl) (fun _ _ _ => rfl)) (fun _ _ => stg_mem [22, 23, 24, 0, 1, 2, 3, 4, 5, 6, 7, 8] 25 [25, 21, 20, 19, 18, 17, 16, 15, 14, 13, 12, 11, 10, 9] [] (fun b18 => []) rfl rfl (prs_cons (pri rfl (p_bin rfl rfl (b_add (by first | exact w_i64 (by omega) (by omega) | rfl)))) (prs_cons (pri rfl (p_idx_sl (j := jf) Tryz.underlying27 t63 rfl rfl (hs_sl (k := 3) rfl) hjf hjl)) (prs_cons (pri rfl (p_loadA t63 rfl rfl rfl (g_el' (hs_sl (k := 3) rfl) (by intro _; rfl) hfj (by rfl)))) (prs_cons (pri rfl (p_move rfl)) (prs_cons (pri rfl (p_nilCheck rfl)) (prs_cons (pri rfl (p_field0 fo76_7 rfl)) (prs_cons (pri rfl (p_load1 t27 rfl rfl (g_row1 (k := 0) rfl rfl))) (prs_cons (pri rfl (p_move rfl)) (prs_cons (pri rfl (p_nilCheck rfl)) (prs_cons (pri rfl (p_field0 fo76_6 rfl)) (prs_cons (pri rfl (p_load1 t3 rfl rfl (g_row1 (k := 0) rfl rfl))) (prs_cons (pri rfl (p_bin rfl rfl (b_add (by first | exact w_i64 (by omega) (by omega) | rfl)))) prs_nil)))))))))))) rfl rfl rfl rfl rfl rfl rfl rfl rfl rfl rfl (fun _ _ => rfl) rfl (ms_alloc t63 rfl) (fun b18 _ => stg_mem0 [22, 23, 24, 0, 1, 2, 3, 4, 5, 6, 7, 8] 26 [26, 25, 24, 23, 22, 21, 20, 19, 18, 17, 16, 15, 14, 13, 12, 11, 10, 9, 8, 7, 6, 5, 4, 3, 2, 1, 0] [] (fun _ => []) rfl rfl (prs_cons (pri rfl (p_bin rfl rfl (b_add (by first | exact w_i64 (by omega) (by omega) | rfl)))) (prs_cons (pri rfl (p_idx_sl (j := jf) Tryz.underlying27 t63 rfl rfl (hs_sl (k := 3) rfl) hjf hjl)) (prs_cons (pri rfl (p_loadA t63 rfl rfl rfl (g_el' (hs_sl (k := 3) rfl) (by intro _; rfl) hfj (by rfl)))) (prs_cons (pri rfl (p_move rfl)) (prs_cons (pri rfl (p_nilCheck rfl)) (prs_cons (pri rfl (p_field0 fo76_7 rfl)) (prs_cons (pri rfl (p_load1 t27 rfl rfl (g_row1 (k := 0) rfl rfl))) (prs_cons (pri rfl (p_move rfl)) (prs_cons (pri rfl (p_nilCheck rfl)) (prs_cons (pri rfl (p_field0 fo76_6 rfl)) (prs_cons (pri rfl (p_load1 t3 rfl rfl (g_row1 (k := 0) rfl rfl))) (prs_cons (pri rfl (p_bin rfl rfl (b_add (by first | exact w_i64 (by omega) (by omega) | rfl)))) prs_nil)))))))))))) rfl rfl rfl rfl rfl rfl rfl rfl rfl (fun _ _ => rfl) rfl (ms_store_all (k := 18) t63 rfl rfl rfl rfl rfl rfl) (fun _ _ => stg_end [] rfl rfl prs_nil rfl rfl rfl ?_)))) (nx_cons (nx_mem 25 [25] [] (fun b18 => []) rfl rfl rfl rfl rfl rfl rfl rfl rfl (fun _ _ => rfl) rfl (ms_alloc t63 rfl) (fun b18 _ => stg_mem [0, 1, 2, 3, 4, 5, 6, 7, 8, 9, 10, 11, 12, 13, 14, 15, 16, 17, 18, 19, 20] 21 [25, 21, 20, 19, 18, 17, 16, 15, 14, 13, 12, 11, 10, 9] [22, 23, 24] (fun _ => [(22, 302, _), (23, 303, _), (24, 304, _)]) rfl rfl (prs_cons (pri rfl (p_move rfl)) (prs_cons (pri rfl (p_nilCheck rfl)) (prs_cons (pri rfl (p_field0 fo76_7 rfl)) (prs_cons (pri rfl (p_load1 t27 rfl rfl (g_row1 (k := 0) rfl rfl))) (prs_cons (pri rfl (p_move rfl)) (prs_cons (pri rfl (p_nilCheck rfl)) (prs_cons (pri rfl (p_field0 fo76_6 rfl)) (prs_cons (pri rfl (p_load1 t3 rfl rfl (g_row1 (k := 0) rfl rfl))) (prs_cons (pri rfl (p_bin rfl rfl (b_add (by first | exact w_i64 (by omega) (by omega) | rfl)))) (prs_cons (pri rfl (p_move rfl)) (prs_cons (pri rfl (p_move rfl)) (prs_cons (pri rfl (p_nilCheck rfl)) (prs_cons (pri rfl (p_field0 fo76_7 rfl)) (prs_cons (pri rfl (p_load1 t27 rfl rfl (g_row1 (k := 0) rfl rfl))) (prs_cons (pri rfl (p_len_sl Tryz.underlying27 rfl (hs_sl (k := 3) rfl))) (prs_cons (pri rfl (p_move rfl)) (prs_cons (pri rfl (p_nilCheck rfl)) (prs_cons (pri rfl (p_field0 fo76_6 rfl)) (prs_cons (pri rfl (p_load1 t3 rfl rfl (g_row1 (k := 0) rfl rfl))) (prs_cons (pri rfl (p_bin rfl rfl (b_sub (by first | exact w_i64 (by omega) (by omega) | rfl)))) (prs_cons (pri rfl (p_bin rfl rfl (b_sub (by first | exact w_i64 (by omega) (by omega) | rfl)))) prs_nil))))))))))))))))))))) rfl rfl rfl rfl rfl rfl rfl rfl rfl rfl rfl (fun _ _ => rfl) rfl (ms_callN (xs := [.tmp 289, .tmp 300]) (gnext_spec e.g e.vl vn e.vf e.c he.hl he.hlo (((e.F.length : Int) - (e.c.me : Int) - 1)) (by omega) (sa)) cb31 [0] [(false, 0)] [0] rfl rfl rfl rfl rfl rfl rfl rfl (fun _ _ => rfl) (fun _ _ _ => rfl)) (fun _ _ => stg_mem0 [22, 23, 24, 0, 1, 2, 3, 4, 5, 6, 7, 8] 26 [26, 25, 24, 23, 22, 21, 20, 19, 18, 17, 16, 15, 14, 13, 12, 11, 10, 9, 8, 7, 6, 5, 4, 3, 2, 1, 0] [] (fun _ => []) rfl rfl (prs_cons (pri rfl (p_bin rfl rfl (b_add (by first | exact w_i64 (by omega) (by omega) | rfl)))) (prs_cons (pri rfl (p_idx_sl (j := jf) Tryz.underlying27 t63 rfl rfl (hs_sl (k := 3) rfl) hjf hjl)) (prs_cons (pri rfl (p_loadA t63 rfl rfl rfl (g_el' (hs_sl (k := 3) rfl) (by intro _; rfl) hfj (by rfl)))) (prs_cons (pri rfl (p_move rfl)) (prs_cons (pri rfl (p_nilCheck rfl)) (prs_cons (pri rfl (p_field0 fo76_7 rfl)) (prs_cons (pri rfl (p_load1 t27 rfl rfl (g_row1 (k := 0) rfl rfl))) (prs_cons (pri rfl (p_move rfl)) (prs_cons (pri rfl (p_nilCheck rfl)) (prs_cons (pri rfl (p_field0 fo76_6 rfl)) (prs_cons (pri rfl (p_load1 t3 rfl rfl (g_row1 (k := 0) rfl rfl))) (prs_cons (pri rfl (p_bin rfl rfl (b_add (by first | exact w_i64 (by omega) (by omega) | rfl)))) prs_nil)))))))))))) rfl rfl rfl rfl rfl rfl rfl rfl rfl (fun _ _ => rfl) rfl (ms_store_all (k := 18) t63 rfl rfl rfl rfl rfl rfl) (fun _ _ => stg_end [] rfl rfl prs_nil rfl rfl rfl ?_)))) nx_nil)))
           ·refine r_here (f, (gN e.c.l ((e.F.length : Int) - (e.c.me : Int) - 1) sa).2, b18) ⟨List.mem_of_getElem? hfj, (gN e.c.l ((e.F.length : Int) - (e.c.me : Int) - 1) sa).1, rfl, by rw [he.fs, List.getElem?_map, show ((e.c.me : Int) + 1 + (gN e.c.l ((e.F.length : Int) - (e.c.me : Int) - 1) sa).1).toNat = jf by omega, hfj]; rfl⟩ rfl rfl rfl
           ·refine r_here (f, (gN e.c.l ((e.F.length : Int) - (e.c.me : Int) - 1) sa).2, b18) ⟨List.mem_of_getElem? hfj, (gN e.c.l ((e.F.length : Int) - (e.c.me : Int) - 1) sa).1, rfl, by rw [he.fs, List.getElem?_map, show ((e.c.me : Int) + 1 + (gN e.c.l ((e.F.length : Int) - (e.c.me : Int) - 1) sa).1).toNat = jf by omega, hfj]; rfl⟩ rfl rfl rfl
          ·obtain ⟨f2, s2b, b18⟩ := y
           obtain ⟨hfm, jn, hjn, hfx⟩ := hy
           dsimp only at hfm hjn hfx ⊢
           obtain ⟨j10, s3b, hj10⟩ : ∃ a b, gN e.c.l 8 s2b = (a, b) := ⟨_, _, rfl⟩
           have hn3 : s3b.names = sa.names := (gN_st2 hj10).1.trans (gN_st2 hjn).1
           refine r_seq_cut (X := Tf × Gs) (fun y => y.1 ∈ e.F ∧ y.2.names = sa.names ∧ ((j10 ≠ 7 ∧ e.c.fs[((e.c.me : Int) + 1 + jn).toNat]? = some (y.1.name, y.1.ps) ∧ y.2 = s3b) ∨ (j10 = 7 ∧ ∃ j3, gN e.c.l ((e.c.fs.length : Int) - 1) s3b = (j3, y.2) ∧ e.c.fs[(1 + j3).toNat]? = some (y.1.name, y.1.ps)))) (fun y => [(0, .pointer (some ⟨e.g, 0, none⟩)), (1, .int .i64 (4 - (lev : Int))), (5, sv vo), (6, .int .i64 (many : Int)), (7, .int .i64 (i : Int)), (18, .pointer (some ⟨b18, 0, none⟩))]) (fun y => [(0, row e.g 76 (gRow e.vl (y.2) vn e.c.me e.vf)), (1, own 9 1 eS (sv vn) sa.names), (60, own 53 5 eTy (sv vo) out), (40, ysA out), (18, row b18 63 (eTf y.1))]) (fun y => [(0, sl 1 eI (sv e.vl) e.c.l), (2, tfsA e.vf e.F), (3, sl 3 eTf (sv e.vf) e.F)]) ?_ (fun y hy => ?_)
           ·refine r_seq ?_
            refine r_region ?_
            refine r_p (p_move rfl) rfl ?_
            refine r_callN (xs := [.tmp 305, .const (.int .i64 8)]) (gnext_spec e.g e.vl vn e.vf e.c he.hl he.hlo (8) (by decide) (s2b)) cb31 [0] [(false, 0)] [0] rfl rfl rfl rfl rfl rfl rfl rfl (fun _ _ => rfl) (fun _ _ _ => rfl) rfl (fun _ _ => ?_)
            rw [hj10]
            dsimp only
            refine r_p (p_bin rfl rfl b_eq) rfl ?_
            refine r_nil ?_
            refine r_cond rfl (fun h66 => ?_) (fun h66 => ?_)
            ·(try simp only [decide_eq_true_eq, decide_eq_false_iff_not, Bool.and_eq_true, Bool.or_eq_true, Bool.and_eq_false_iff, Bool.or_eq_false_iff, Bool.not_eq_true, Bool.not_eq_false, Bool.not_eq_true', Bool.not_eq_false', Bool.not_not, bne_iff_ne, beq_iff_eq] at h66)
             have h10 : j10 = 7 := h66
             have hjb3 := gN_bnd e.c.l (n := (e.F.length : Int) - 1) (by omega) s3b
             obtain ⟨jg, hjg⟩ : ∃ jg : Nat, (1 : Int) + (gN e.c.l ((e.F.length : Int) - 1) s3b).1 = (jg : Int) := ⟨((1 : Int) + (gN e.c.l ((e.F.length : Int) - 1) s3b).1).toNat, by omega⟩
             have hjgl : jg < e.F.length := by omega
             obtain ⟨f5, hgj⟩ : ∃ f, e.F[jg]? = some f := ⟨_, List.getElem?_eq_getElem hjgl⟩
             refine r_draw [308, 309, 310, 311, 312, 313, 314, 315, 316, 317, 318, 319, 320, 321, 322] _ rfl (stg_mem (V := [(0, 308, _), (1, 309, _), (2, 310, _), (3, 311, _), (4, 312, _), (5, 313, _), (6, 314, _), (7, 315, _), (8, 316, _), (9, 317, _), (10, 318, _)]) [0, 1, 2, 3, 4, 5, 6, 7, 8, 9, 10] 11 [11, 10, 9, 8, 7, 6, 5, 4] [12, 13, 14] (fun _ => [(12, 320, _), (13, 321, _), (14, 322, _)]) rfl rfl (prs_cons (pri rfl (p_move rfl)) (prs_cons (pri rfl (p_nilCheck rfl)) (prs_cons (pri rfl (p_field0 fo76_7 rfl)) (prs_cons (pri rfl (p_load1 t27 rfl rfl (g_row1 (k := 0) rfl rfl))) (prs_cons (pri rfl (p_move rfl)) (prs_cons (pri rfl (p_move rfl)) (prs_cons (pri rfl (p_nilCheck rfl)) (prs_cons (pri rfl (p_field0 fo76_7 rfl)) (prs_cons (pri rfl (p_load1 t27 rfl rfl (g_row1 (k := 0) rfl rfl))) (prs_cons (pri rfl (p_len_sl Tryz.underlying27 rfl (hs_sl (k := 3) rfl))) (prs_cons (pri rfl (p_bin rfl rfl (b_sub (by first | exact w_i64 (by omega) (by omega) | rfl)))) prs_nil))))))))))) rfl rfl rfl rfl rfl rfl rfl rfl rfl rfl rfl (fun _ _ => rfl) rfl (ms_callN (xs := [.tmp 312, .tmp 318]) (gnext_spec e.g e.vl vn e.vf e.c he.hl he.hlo (((e.F.length : Int) - 1)) (by omega) (s3b)) cb31 [0] [(false, 0)] [0] rfl rfl rfl rfl rfl rfl rfl rfl (fun _ _ => rfl) (fun _ _ _ => rfl)) (fun _ _ => stg_mem0 [12, 13, 14, 0, 1, 2, 3] 15 [15, 14, 13, 12, 11, 10, 9, 8, 7, 6, 5, 4, 3, 2, 1, 0] [] (fun _ => []) rfl rfl (prs_cons (pri rfl (p_bin rfl rfl (b_add (by first | exact w_i64 (by omega) (by omega) | rfl)))) (prs_cons (pri rfl (p_idx_sl (j := jg) Tryz.underlying27 t63 rfl rfl (hs_sl (k := 3) rfl) hjg hjgl)) (prs_cons (pri rfl (p_loadA t63 rfl rfl rfl (g_el' (hs_sl (k := 3) rfl) (by intro _; rfl) hgj (by rfl)))) (prs_cons (pri rfl (p_move rfl)) (prs_cons (pri rfl (p_nilCheck rfl)) (prs_cons (pri rfl (p_field0 fo76_7 rfl)) (prs_cons (pri rfl (p_load1 t27 rfl rfl (g_row1 (k := 0) rfl rfl))) prs_nil))))))) rfl rfl rfl rfl rfl rfl rfl rfl rfl (fun _ _ => rfl) rfl (ms_store_all (k := 18) t63 rfl rfl rfl rfl rfl rfl) (fun _ _ => stg_end [] rfl rfl prs_nil rfl rfl rfl ?_)))
             refine r_here (f5, (gN e.c.l ((e.F.length : Int) - 1) s3b).2) ⟨List.mem_of_getElem? hgj, (gN_keep _ _ _).1.trans hn3, .inr ⟨h10, (gN e.c.l ((e.F.length : Int) - 1) s3b).1, by rw [hfl], by rw [he.fs, List.getElem?_map, show ((1 : Int) + (gN e.c.l ((e.F.length : Int) - 1) s3b).1).toNat = jg by omega, hgj]; rfl⟩⟩ rfl rfl rfl
            ·(try simp only [decide_eq_true_eq, decide_eq_false_iff_not, Bool.and_eq_true, Bool.or_eq_true, Bool.and_eq_false_iff, Bool.or_eq_false_iff, Bool.not_eq_true, Bool.not_eq_false, Bool.not_eq_true', Bool.not_eq_false', Bool.not_not, bne_iff_ne, beq_iff_eq] at h66)
             have h10 : j10 ≠ 7 := h66
             refine r_skip ?_
             refine r_here (f2, s3b) ⟨hfm, hn3, .inl ⟨h10, hfx, rfl⟩⟩ rfl rfl rfl
           ·obtain ⟨f4, s4b⟩ := y
            obtain ⟨hf4, hn4, hff⟩ := hy
            dsimp only at hf4 hn4 hff ⊢
            refine r_region ?_
            refine r_p (p_move rfl) rfl ?_
            refine r_p (p_move rfl) rfl ?_
            refine r_p (p_loadA t63 rfl rfl rfl (g_all (k := 18) rfl)) rfl ?_
            refine r_callN (xs := [.tmp 324, .tmp 325, .const (.int .i64 3)]) (gc_own he 1 (by decide) vn s4b f4 hf4 (by rw [hn4]; exact hin)) cb50 [0] [(false, 0), (true, 1), (false, 2)] [0, 326] rfl rfl rfl rfl rfl (by rw [hn4]; rfl) rfl rfl (fun _ _ => rfl) (fun _ _ _ => rfl) rfl (fun ⟨t1, s5⟩ ht1 => ?_)
            dsimp only at ht1 ⊢
            refine r_bslice1 eTx t1 Tryz.underlying46 t48 rfl (by decide) (by decide) rfl rfl rfl rfl fun v327 => ?_
            refine r_p (p_build (parts := [(0, .const (.int .i64 8)), (2, .tmp 327)]) t53 pl53 rfl rfl) rfl ?_
            refine r_bslice1 eTy (.mk 8 oNil v327 [t1] nilS [] nilS []) Tryz.underlying51 t53 rfl (by decide) (by decide) rfl rfl rfl rfl fun v329 => ?_
            refine r_append 60 Tryz.underlying51 t53 rfl (by decide) (fun _ => rfl) (fun _ => rfl) rfl rfl rfl (hs_own (k := 329) rfl) (by simp only [List.length_append, List.length_cons, List.length_nil]; omega) (by unfold maxLen; simp only [List.length_append, List.length_cons, List.length_nil]; omega) rfl fun v330 => ?_
            refine r_p (p_assign rfl) rfl ?_
            refine r_nil ?_
            refine r_region ?_
            refine r_p (p_move rfl) rfl ?_
            refine r_p (p_bin rfl rfl (b_add (by first | exact w_i64 (by omega) (by omega) | rfl))) rfl ?_
            refine r_p (p_assign rfl) rfl ?_
            refine r_nil ?_
            have hg1 : G1r e.c (lev) k sa (erYs [.mk 8 oNil v327 [t1] nilS [] nilS []]) (s5) := h9.1 ▸ .dos (by rw [hfl]; exact h9.2) (by rw [hfl]; exact hjn) hj10 hff ht1
            have hkp := hg1.inv hia
            refine r_collect 40 [40, 327, 326] (C := ysA (out ++ [.mk 8 oNil v327 [t1] nilS [] nilS []])) rfl st1_all ?_
            refine r_here ⟨i + 1, v330, out ++ [.mk 8 oNil v327 [t1] nilS [] nilS []], s5, vn⟩ ⟨⟨by dsimp only; omega, hkp.inv, by dsimp only; rw [List.length_append]; simp only [List.length_cons, List.length_nil]; omega, by dsimp only; rw [erYs_app]; exact gl_next hi2 hleft hk hg1 n4⟩, by dsimp only; omega⟩ rfl (by dsimp only; rw [show s5.names = sa.names from ht1.keep.1.trans hn4]; rfl) rfl
         ·(try simp only [decide_eq_true_eq, decide_eq_false_iff_not, Bool.and_eq_true, Bool.or_eq_true, Bool.and_eq_false_iff, Bool.or_eq_false_iff, Bool.not_eq_true, Bool.not_eq_false, Bool.not_eq_true', Bool.not_eq_false', Bool.not_not, bne_iff_ne, beq_iff_eq] at h65)
          have q9 : ¬ (k = 9 ∧ e.c.me + 1 < e.F.length) := by rintro ⟨h1, h2⟩; rcases h65 with h | h; exact h h1; omega
          refine r_region ?_
          refine r_p (p_move rfl) rfl ?_
          refine r_p (p_move rfl) rfl ?_
          refine r_callN (xs := [.tmp 45, .const (.int .i64 4)]) (gx_own he 3 (by decide) vn sa hin) cb49 [0] [(false, 0), (true, 1), (false, 2)] [0, 46] rfl rfl rfl rfl rfl rfl rfl rfl (fun _ _ => rfl) (fun _ _ _ => rfl) rfl (fun ⟨t1, s2⟩ ht1 => ?_)
          dsimp only at ht1 ⊢
          refine r_bslice1 eTx t1 Tryz.underlying46 t48 rfl (by decide) (by decide) rfl rfl rfl rfl fun v47 => ?_
          refine r_p (p_build (parts := [(0, .const (.int .i64 7)), (2, .tmp 47)]) t53 pl53 rfl rfl) rfl ?_
          refine r_bslice1 eTy (yOut v47 t1) Tryz.underlying51 t53 rfl (by decide) (by decide) rfl rfl rfl rfl fun v49 => ?_
          refine r_append 60 Tryz.underlying51 t53 rfl (by decide) (fun _ => rfl) (fun _ => rfl) rfl rfl rfl (hs_own (k := 49) rfl) (by simp only [List.length_append, List.length_cons, List.length_nil]; omega) (by unfold maxLen; simp only [List.length_append, List.length_cons, List.length_nil]; omega) rfl fun v50 => ?_
          refine r_p (p_assign rfl) rfl ?_
          refine r_nil ?_
          refine r_region ?_
          refine r_p (p_move rfl) rfl ?_
          refine r_p (p_bin rfl rfl (b_add (by first | exact w_i64 (by omega) (by omega) | rfl))) rfl ?_
          refine r_p (p_assign rfl) rfl ?_
          refine r_nil ?_
          have hg1 : G1r e.c (lev) k sa (erYs [yOut v47 t1]) (s2) := .out q2 q3 q4.1 q4.2 (fun h => q5 h) (fun h => q7 h) (.inl ⟨h8, rfl⟩) (fun h => q9 ⟨h.1, by rw [← hfl]; exact h.2⟩) ht1
          have hkp := hg1.inv hia
          refine r_collect 40 [40, 47, 46] (C := ysA (out ++ [yOut v47 t1])) rfl st1_all ?_
          refine r_here ⟨i + 1, v50, out ++ [yOut v47 t1], s2, vn⟩ ⟨⟨by dsimp only; omega, hkp.inv, by dsimp only; rw [List.length_append]; simp only [List.length_cons, List.length_nil]; omega, by dsimp only; rw [erYs_app]; exact gl_next hi2 hleft hk hg1 n4⟩, by dsimp only; omega⟩ rfl (by dsimp only; rw [show s2.names = sa.names from ht1.keep.1]; rfl) rfl
 ·(try simp only [decide_eq_true_eq, decide_eq_false_iff_not, Bool.and_eq_true, Bool.or_eq_true, Bool.and_eq_false_iff, Bool.or_eq_false_iff, Bool.not_eq_true, Bool.not_eq_false, Bool.not_eq_true', Bool.not_eq_false', Bool.not_not, bne_iff_ne, beq_iff_eq] at h6)
  have hend : GLr e.c lev (many - i) s [] s := by
   by_cases hh : i < many
   ·refine .stop ?_
    rcases h6 with h | h
    ·omega
    ·omega
   ·rw [show many - i = 0 by omega]; exact .zero
  have hfin := n4 _ _ hend
  rw [List.append_nil] at hfin
  refine r_exit ?_
  refine r_seq ?_
  refine r_region ?_
  refine r_p (p_move rfl) rfl ?_
  refine r_p (p_assign rfl) rfl ?_
  refine r_nil ?_
  refine r_cret ?_
  refine r_ret (vo, out, s, vn) ⟨.mk hj0 (by rw [hmany]; exact hfin), by dsimp only; omega⟩ rfl (rs1 (rv_tmp rfl)) rfl [0, 1, 60, 40] [] rfl rfl rfl

end Go.Proofs.YtdcbbkpdlcojfaaGreat
namespace Go.Proofs.YtdcbbkpdlcojfaaGreat
set_option linter.unusedSimpArgs false
set_option linter.unusedVariables false
open Go.RowKit

theorem hgy_all {e : Ge} (he : Gfine e) : ∀ lev, lev ≤ 3 → HGY e lev
 | 0, h => fun s vn hi => gstmts_step e he 0 h (fun k hk => by omega) s vn hi
 | lev + 1, h => fun s vn hi => gstmts_step e he (lev + 1) h (fun k hk => (show lev = k by omega) ▸ hgy_all he lev (by omega)) s vn hi
theorem erX_mk {t : Tx} {k n : Int} {nm : ByteArray} {ps : List Px} (h : erX t = .mk k n nm ps) : ∃ v kids, t = .mk k n nm v kids ∧ erXs kids = ps := by
 cases t with
 | mk k2 n2 nm2 v kids =>
  rw [erX] at h
  injection h with h1 h2 h3 h4
  subst h1; subst h2; subst h3
  exact ⟨v, kids, rfl, h4⟩
theorem erXs_nil {ts : List Tx} (h : erXs ts = []) : ts = [] := by
 cases ts with
 | nil => rfl
 | cons t r => rw [erXs] at h; cases h
theorem erXs_cons {ts : List Tx} {p : Px} {ps : List Px} (h : erXs ts = p :: ps) : ∃ t r, ts = t :: r ∧ erX t = p ∧ erXs r = ps := by
 cases ts with
 | nil => rw [erXs] at h; cases h
 | cons t r => rw [erXs] at h; injection h with h1 h2; exact ⟨t, r, rfl, h1, h2⟩
theorem erXs_one {ts : List Tx} {p : Px} (h : erXs ts = [p]) : ∃ t, ts = [t] ∧ erX t = p := by
 obtain ⟨t, r, rfl, h1, h2⟩ := erXs_cons h
 rw [erXs_nil h2]
 exact ⟨t, rfl, h1⟩
theorem erXs_two {ts : List Tx} {p q : Px} (h : erXs ts = [p, q]) : ∃ t u, ts = [t, u] ∧ erX t = p ∧ erX u = q := by
 obtain ⟨t, r, rfl, h1, h2⟩ := erXs_cons h
 obtain ⟨u, rfl, h3⟩ := erXs_one h2
 exact ⟨t, u, rfl, h1, h3⟩
theorem erY_mk {t : Ty} {k : Int} {nm : ByteArray} {es : List Px} {bs ls : List Py} (h : erY t = .mk k nm es bs ls) : ∃ v xs vb b vl l, t = .mk k nm v xs vb b vl l ∧ erXs xs = es ∧ erYs b = bs ∧ erYs l = ls := by
 cases t with
 | mk k2 nm2 v xs vb b vl l =>
  rw [erY] at h
  injection h with h1 h2 h3 h4 h5
  subst h1; subst h2
  exact ⟨v, xs, vb, b, vl, l, rfl, h3, h4, h5⟩
theorem erYs_nil {ts : List Ty} (h : erYs ts = []) : ts = [] := by
 cases ts with
 | nil => rfl
 | cons t r => rw [erYs] at h; cases h
theorem erYs_cons {ts : List Ty} {p : Py} {ps : List Py} (h : erYs ts = p :: ps) : ∃ t r, ts = t :: r ∧ erY t = p ∧ erYs r = ps := by
 cases ts with
 | nil => rw [erYs] at h; cases h
 | cons t r => rw [erYs] at h; injection h with h1 h2; exact ⟨t, r, rfl, h1, h2⟩
theorem erYs_one {ts : List Ty} {p : Py} (h : erYs ts = [p]) : ∃ t, ts = [t] ∧ erY t = p := by
 obtain ⟨t, r, rfl, h1, h2⟩ := erYs_cons h
 rw [erYs_nil h2]
 exact ⟨t, rfl, h1⟩
theorem erYs_split : ∀ {a : List Py} {b : List Py} {ts : List Ty}, erYs ts = a ++ b → ∃ u v, ts = u ++ v ∧ erYs u = a ∧ erYs v = b
 | [], b, ts, h => ⟨[], ts, rfl, by rw [erYs], h⟩
 | x :: a, b, ts, h => by
  obtain ⟨t, r, rfl, h1, h2⟩ := erYs_cons h
  obtain ⟨u, v, rfl, h3, h4⟩ := erYs_split h2
  exact ⟨t :: u, v, rfl, by rw [erYs, h1, h3], h4⟩
theorem GYs_app : ∀ {a b : List Ty}, GYs a → GYs b → GYs (a ++ b)
 | [], _, _, hb => hb
 | _ :: _, _, ha, hb => ⟨ha.1, GYs_app ha.2 hb⟩
theorem leaf_gx {k n : Int} {nm : ByteArray} {v : SV} (d : Nat) (hn : oW n) (hm : nmB nm) : GX (.mk k n nm v []) ∧ nX (.mk k n nm v []) ≤ 5 ^ (d + 1) :=
 ⟨⟨hn, hm, Nat.zero_le _, trivial⟩, by rw [nX, nXs]; exact Nat.one_le_pow _ _ (by decide)⟩
theorem pow5 (d : Nat) : 5 ^ (d + 1 + 1) = 5 * 5 ^ (d + 1) ∧ 5 ≤ 5 ^ (d + 1) := by
 have h1 : 1 ≤ 5 ^ d := Nat.one_le_pow _ _ (by decide)
 have h2 : 5 ^ (d + 1) = 5 ^ d * 5 := Nat.pow_succ ..
 have h3 : 5 ^ (d + 1 + 1) = 5 ^ (d + 1) * 5 := Nat.pow_succ ..
 omega
theorem one_gx {k n : Int} {nm : ByteArray} {v : SV} {d : Nat} {t : Tx} (hn : oW n) (hm : nmB nm) (h : GX t ∧ nX t ≤ 5 ^ (d + 1)) : GX (.mk k n nm v [t]) ∧ nX (.mk k n nm v [t]) ≤ 5 ^ (d + 1 + 1) :=
 ⟨⟨hn, hm, by show 1 ≤ 1000000; decide, h.1, trivial⟩, by rw [nX, nXs, nXs]; have := pow5 d; have := h.2; omega⟩
theorem two_gx {k n : Int} {nm : ByteArray} {v : SV} {d : Nat} {t u : Tx} (hn : oW n) (hm : nmB nm) (h : GX t ∧ nX t ≤ 5 ^ (d + 1)) (h2 : GX u ∧ nX u ≤ 5 ^ (d + 1)) : GX (.mk k n nm v [t, u]) ∧ nX (.mk k n nm v [t, u]) ≤ 5 ^ (d + 1 + 1) :=
 ⟨⟨hn, hm, by show 2 ≤ 1000000; decide, h.1, h2.1, trivial⟩, by rw [nX, nXs, nXs, nXs]; have := pow5 d; have := h.2; have := h2.2; omega⟩
theorem cL_oW {x : Int} {j : Nat} (h : cL[j]? = some x) : oW x := by
 have h1 := List.mem_of_getElem? h
 simp only [cL, List.mem_cons, List.not_mem_nil, or_false] at h1
 rcases h1 with rfl | rfl | rfl | rfl | rfl | rfl | rfl | rfl | rfl | rfl | rfl | rfl | rfl | rfl | rfl <;> decide
theorem unL_nm {x : ByteArray} {j : Nat} (h : unL[j]? = some x) : nmB x := by
 have h1 := List.mem_of_getElem? h
 simp only [unL, List.mem_cons, List.not_mem_nil, or_false] at h1
 rcases h1 with rfl | rfl | rfl <;> exact nmB_of rfl
theorem biL_nm {x : ByteArray} {j : Nat} (h : biL[j]? = some x) : nmB x := by
 have h1 := List.mem_of_getElem? h
 simp only [biL, List.mem_cons, List.not_mem_nil, or_false] at h1
 rcases h1 with rfl | rfl | rfl | rfl | rfl | rfl | rfl | rfl | rfl | rfl | rfl | rfl | rfl | rfl | rfl | rfl <;> exact nmB_of rfl
theorem fresh_nm {x : ByteArray} {j : Nat} (h : freshL[j]? = some x) : nmB x := by
 have h1 := List.mem_of_getElem? h
 simp only [freshL, List.mem_cons, List.not_mem_nil, or_false] at h1
 rcases h1 with rfl | rfl | rfl | rfl | rfl | rfl | rfl | rfl <;> exact nmB_of rfl
def Nm (s : Gs) : Prop := ∀ x ∈ s.names, nmB x
theorem Nm.same {s s' : Gs} (h : Nm s) (k : s'.names = s.names) : Nm s' := by unfold Nm; rw [k]; exact h
def Cok (c : Gc) : Prop := ∀ f ∈ c.fs, nmB f.1 ∧ f.2.length ≤ 4
mutual
theorem GXr.gx {c : Gc} (hc : Cok c) : ∀ {d : Nat} {s s' : Gs} {p : Px}, GXr c d s p s' → Nm s → ∀ t, erX t = p → GX t ∧ nX t ≤ 5 ^ (d + 1)
 | d, s, _, _, .nam hk h hn hj hx, hs, t, ht => by
  obtain ⟨v, kids, rfl, hkk⟩ := erX_mk ht
  cases erXs_nil hkk
  exact leaf_gx d oW0 (hs _ ((gK_st hk).1 ▸ List.mem_of_getElem? hx))
 | d, s, _, _, .inp hk, hs, t, ht => by
  obtain ⟨v, kids, rfl, hkk⟩ := erX_mk ht
  cases erXs_nil hkk
  exact leaf_gx d oW0 (nmB_of rfl)
 | _, s, _, _, .mem hk h hp, hs, t, ht => by
  obtain ⟨v, kids, rfl, hkk⟩ := erX_mk ht
  obtain ⟨t1, rfl, h1⟩ := erXs_one hkk
  exact one_gx oW0 (nmB_of rfl) (hp.gx hc (hs.same (gK_st hk).1) t1 h1)
 | _, s, _, _, .una hk hj hx hp, hs, t, ht => by
  obtain ⟨v, kids, rfl, hkk⟩ := erX_mk ht
  obtain ⟨t1, rfl, h1⟩ := erXs_one hkk
  exact one_gx oW0 (unL_nm hx) (hp.gx hc ((hs.same (gK_st hk).1).same (gN_st2 hj).1) t1 h1)
 | d + 1, s, _, _, .call hk h hj hx hp, hs, t, ht => by
  obtain ⟨v, kids, rfl, hkk⟩ := erX_mk ht
  have hf := hc _ (List.mem_of_getElem? hx)
  obtain ⟨h1, h2, h3⟩ := hp.gx hc ((hs.same (gK_st hk).1).same (gN_st2 hj).1) kids hkk
  refine ⟨⟨oW0, hf.1, by omega, h1⟩, ?_⟩
  rw [nX]
  have := pow5 d
  have h4 : _ * 5 ^ (d + 1) ≤ 4 * 5 ^ (d + 1) := Nat.mul_le_mul_right _ hf.2
  omega
 | _, s, _, _, .bin hk h hj hx hp hq, hs, t, ht => by
  obtain ⟨v, kids, rfl, hkk⟩ := erX_mk ht
  obtain ⟨t1, t2, rfl, h1, h2⟩ := erXs_two hkk
  have hs2 := (hs.same (gK_st hk).1).same (gN_st2 hj).1
  exact two_gx oW0 (biL_nm hx) (hp.gx hc hs2 t1 h1) (hq.gx hc (hs2.same hp.keep.1) t2 h2)
 | d, s, _, _, .con hk h1 h3 h4 h5 h6 h7 h8 hj hx, hs, t, ht => by
  obtain ⟨v, kids, rfl, hkk⟩ := erX_mk ht
  cases erXs_nil hkk
  exact leaf_gx d (cL_oW hx) (nmB_of rfl)
theorem GKr.gx {c : Gc} (hc : Cok c) : ∀ {d n : Nat} {s s' : Gs} {ps : List Px}, GKr c d n s ps s' → Nm s → ∀ ts, erXs ts = ps → GXs ts ∧ nXs ts ≤ n * 5 ^ (d + 1) ∧ ts.length = n
 | d, _, s, _, _, .nil, hs, ts, ht => by
  cases erXs_nil ht
  exact ⟨trivial, by rw [nXs]; exact Nat.zero_le _, rfl⟩
 | d, n + 1, s, _, _, .cons hp hq, hs, ts, ht => by
  obtain ⟨t, r, rfl, h1, h2⟩ := erXs_cons ht
  obtain ⟨a1, a2⟩ := hp.gx hc hs t h1
  obtain ⟨b1, b2, b3⟩ := hq.gx hc (hs.same hp.keep.1) r h2
  refine ⟨⟨a1, b1⟩, ?_, by rw [List.length_cons, b3]⟩
  rw [nXs, Nat.succ_mul]
  omega
end
theorem GCr.gx {c : Gc} (hc : Cok c) {d : Nat} {f : ByteArray × List ByteArray} {s s' : Gs} {p : Px} (hf : f ∈ c.fs) (h : GCr c d f s p s') (hs : Nm s) (t : Tx) (ht : erX t = p) : GX t ∧ nX t ≤ 5 ^ (d + 1 + 1) := by
 obtain ⟨ps, h1, rfl⟩ := h
 obtain ⟨v, kids, rfl, hkk⟩ := erX_mk ht
 obtain ⟨h1, h2, h3⟩ := h1.gx hc hs kids hkk
 have h5 := hc f hf
 refine ⟨⟨oW0, h5.1, by omega, h1⟩, ?_⟩
 rw [nX]
 have := pow5 d
 have h4 : f.2.length * 5 ^ (d + 1) ≤ 4 * 5 ^ (d + 1) := Nat.mul_le_mul_right _ h5.2
 omega
/-- What is said of statements. -/
def Sok (s s' : Gs) (m : Int) (ts : List Ty) : Prop := GYs ts ∧ (nYs ts : Int) ≤ 4000 * (s.left - s'.left) + m ∧ Nm s'
theorem es1_ok {k : Int} {nm : ByteArray} {v : SV} {t : Tx} {d : Nat} (hm : nmB nm) (h : GX t ∧ nX t ≤ 5 ^ (d + 1)) (hd : d ≤ 3) {vb vl : SV} : GY (.mk k nm v [t] vb [] vl []) ∧ nY (.mk k nm v [t] vb [] vl []) ≤ 626 := by
 refine ⟨⟨hm, ⟨by show 1 ≤ 1000000; decide, h.1, trivial⟩, ⟨Nat.zero_le _, trivial⟩, Nat.zero_le _, trivial⟩, ?_⟩
 rw [nY, nXs, nXs, nYs]
 have h5 : 5 ^ (d + 1) ≤ 5 ^ 4 := Nat.pow_le_pow_right (by decide) (by omega)
 have := h.2
 omega
theorem one_sok {s s' : Gs} {t : Ty} (h : GY t ∧ nY t ≤ 2000) (hl : s'.left ≤ s.left) (hn : Nm s') : Sok s s' 4000 [t] := by
 refine ⟨⟨h.1, trivial⟩, ?_, hn⟩
 rw [nYs, nYs]
 have := h.2
 omega
mutual
theorem GYr.gy {c : Gc} (hc : Cok c) : ∀ {e : Nat} {s s' : Gs} {o : List Py}, GYr c e s o s' → GInv s → Nm s → ∀ ts, erYs ts = o → Sok s s' 0 ts ∧ ts.length ≤ 10
 | _, s, s', _, .mk (s1 := s1) hj h, hi, hs, ts, ht => by
  have k := gN_st2 hj
  obtain ⟨⟨h1, h2, h3⟩, h4⟩ := h.gy hc (hi.same k) (hs.same k.1) ts ht
  have := gN_bd (by decide) hj
  exact ⟨⟨h1, by rw [← k.2.1]; exact h2, h3⟩, by omega⟩
theorem GLr.gy {c : Gc} (hc : Cok c) : ∀ {e n : Nat} {s s' : Gs} {o : List Py}, GLr c e n s o s' → GInv s → Nm s → ∀ ts, erYs ts = o → Sok s s' 0 ts ∧ ts.length ≤ 2 * n
 | _, _, s, _, _, .zero, hi, hs, ts, ht => by
  cases erYs_nil ht
  exact ⟨⟨trivial, by rw [nYs]; omega, hs⟩, Nat.zero_le _⟩
 | _, _, s, _, _, .stop _, hi, hs, ts, ht => by
  cases erYs_nil ht
  exact ⟨⟨trivial, by rw [nYs]; omega, hs⟩, Nat.zero_le _⟩
 | _, n + 1, s, s3, _, .step (s1 := s1) (s2 := s2) hl hk h1 h2, hi, hs, ts, ht => by
  obtain ⟨u, v, rfl, hu, hv⟩ := erYs_split ht
  have hi2 : GInv { s with left := s.left - 1 } := ⟨hi.v0, hi.v8, hi.nm, by show s.left - 1 ≤ 1000; have := hi.lf; omega⟩
  have k := gN_st2 hk
  have hi3 := hi2.same k
  have hs3 : Nm s1 := Nm.same (s := { s with left := s.left - 1 }) hs k.1
  obtain ⟨⟨a1, a2, a3⟩, a4⟩ := h1.gy hc hi3 hs3 u hu
  obtain ⟨⟨b1, b2, b3⟩, b4⟩ := h2.gy hc (h1.inv hi3).inv a3 v hv
  refine ⟨⟨GYs_app a1 b1, ?_, b3⟩, ?_⟩
  ·rw [nYs_app]
   have k2 : s1.left = s.left - 1 := k.2.1
   omega
  ·rw [List.length_append]; omega
theorem G1r.gy {c : Gc} (hc : Cok c) : ∀ {e : Nat} {k : Int} {s s' : Gs} {o : List Py}, G1r c e k s o s' → GInv s → Nm s → ∀ ts, erYs ts = o → Sok s s' 4000 ts ∧ ts.length ≤ 2
 | _, _, s, _, _, .var (s1 := s1) (x := x) _ hx hv hp, hi, hs, ts, ht => by
  obtain ⟨t, rfl, hty⟩ := erYs_one ht
  obtain ⟨v, xs, vb, b, vl, l, rfl, h1, h2, h3⟩ := erY_mk hty
  obtain ⟨t1, rfl, e1⟩ := erXs_one h1
  cases erYs_nil h2
  cases erYs_nil h3
  have hg := hp.gx hc (s := { s with vars := s.vars + 1 }) hs t1 e1
  have hk := hp.keep
  have hy := es1_ok (k := 1) (v := v) (vb := vb) (vl := vl) (fresh_nm hx) hg (by decide)
  refine ⟨one_sok ⟨hy.1, by have := hy.2; omega⟩ (by show s1.left ≤ s.left; rw [hk.2.1]; exact Int.le_refl _) ?_, by show 1 ≤ 2; decide⟩
  intro y hy
  rcases List.mem_append.1 hy with hy | hy
  ·exact hs _ (hk.1 ▸ hy)
  ·rw [List.mem_singleton.1 hy]; exact fresh_nm hx
 | _, _, s, _, _, .set hn hj hx hp, hi, hs, ts, ht => by
  obtain ⟨t, rfl, hty⟩ := erYs_one ht
  obtain ⟨v, xs, vb, b, vl, l, rfl, h1, h2, h3⟩ := erY_mk hty
  obtain ⟨t1, rfl, e1⟩ := erXs_one h1
  cases erYs_nil h2
  cases erYs_nil h3
  have kj := gN_st2 hj
  have hs1 := hs.same kj.1
  have hg := hp.gx hc hs1 t1 e1
  have hk := keep_tr kj hp.keep
  have hy := es1_ok (k := 2) (v := v) (vb := vb) (vl := vl) (hs _ (List.mem_of_getElem? hx)) hg (by decide)
  exact ⟨one_sok ⟨hy.1, by have := hy.2; omega⟩ (by rw [hk.2.1]; exact Int.le_refl _) (hs.same hk.1), by show 1 ≤ 2; decide⟩
 | _, _, s, _, _, .put hk hp hq, hi, hs, ts, ht => by
  obtain ⟨t, rfl, hty⟩ := erYs_one ht
  obtain ⟨v, xs, vb, b, vl, l, rfl, h1, h2, h3⟩ := erY_mk hty
  obtain ⟨t1, t2, rfl, e1, h4⟩ := erXs_two h1
  cases erYs_nil h2
  cases erYs_nil h3
  have hg1 := hp.gx hc hs t1 e1
  have hg2 := hq.gx hc (hs.same hp.keep.1) t2 h4
  have hk := keep_tr hp.keep hq.keep
  refine ⟨one_sok ⟨⟨nmB_of rfl, ⟨by show 2 ≤ 1000000; decide, hg1.1, hg2.1, trivial⟩, ⟨Nat.zero_le _, trivial⟩, Nat.zero_le _, trivial⟩, ?_⟩ (by rw [hk.2.1]; exact Int.le_refl _) (hs.same hk.1), by show 1 ≤ 2; decide⟩
  rw [nY, nXs, nXs, nXs, nYs]
  have := hg1.2; have := hg2.2
  omega
 | _, _, s, s4, _, .iff1 (s1 := s1) (s2 := s2) (s3 := s3) hp ha hj hb, hi, hs, ts, ht => by
  obtain ⟨t, rfl, hty⟩ := erYs_one ht
  obtain ⟨v, xs, vb, b, vl, l, rfl, h1, h2, h3⟩ := erY_mk hty
  obtain ⟨t1, rfl, e1⟩ := erXs_one h1
  have hg1 := hp.gx hc hs t1 e1
  have hi1 := hi.same hp.keep
  have hs1 := hs.same hp.keep.1
  obtain ⟨⟨a1, a2, a3⟩, a4⟩ := ha.gy hc hi1 hs1 b h2
  have kj := gN_st2 hj
  have hi2 := (ha.inv hi1).inv
  have hi3 := hi2.same kj
  obtain ⟨⟨b1, b2, b3⟩, b4⟩ := hb.gy hc hi3 (a3.same kj.1) l h3
  refine ⟨⟨⟨⟨nmB_of rfl, ⟨by show 1 ≤ 1000000; decide, hg1.1, trivial⟩, ⟨by omega, a1⟩, by omega, b1⟩, trivial⟩, ?_, b3⟩, by show 1 ≤ 2; decide⟩
  rw [nYs, nYs, nY, nXs, nXs]
  have := hg1.2; have := hp.keep.2.1; have := kj.2.1
  omega
 | _, _, s, s4, _, .iff0 (s1 := s1) (s2 := s2) hp ha hj _, hi, hs, ts, ht => by
  obtain ⟨t, rfl, hty⟩ := erYs_one ht
  obtain ⟨v, xs, vb, b, vl, l, rfl, h1, h2, h3⟩ := erY_mk hty
  obtain ⟨t1, rfl, e1⟩ := erXs_one h1
  cases erYs_nil h3
  have hg1 := hp.gx hc hs t1 e1
  have hi1 := hi.same hp.keep
  have hs1 := hs.same hp.keep.1
  obtain ⟨⟨a1, a2, a3⟩, a4⟩ := ha.gy hc hi1 hs1 b h2
  have kj := gN_st2 hj
  refine ⟨⟨⟨⟨nmB_of rfl, ⟨by show 1 ≤ 1000000; decide, hg1.1, trivial⟩, ⟨by omega, a1⟩, Nat.zero_le _, trivial⟩, trivial⟩, ?_, a3.same kj.1⟩, by show 1 ≤ 2; decide⟩
  rw [nYs, nYs, nY, nXs, nXs, nYs]
  have := hg1.2; have := hp.keep.2.1; have := kj.2.1
  omega
 | _, _, s, _, _, .whi (s1 := s1) (s2 := s2) (x := x) (j := j) hx hv hj ha, hi, hs, ts, ht => by
  obtain ⟨t, r, rfl, hty, hr⟩ := erYs_cons ht
  obtain ⟨u, rfl, hu⟩ := erYs_one hr
  obtain ⟨v, xs, vb, b, vl, l, rfl, h1, h2, h3⟩ := erY_mk hty
  obtain ⟨t1, rfl, e1⟩ := erXs_one h1
  cases erYs_nil h2
  cases erYs_nil h3
  obtain ⟨v', xs', vb', b', vl', l', rfl, h1', h2', h3'⟩ := erY_mk hu
  obtain ⟨t1', rfl, e1'⟩ := erXs_one h1'
  cases erYs_nil h3'
  obtain ⟨b1, b2, rfl, hb1, hb2⟩ := erYs_split h2'
  obtain ⟨t2, rfl, eb2⟩ := erYs_one hb2
  obtain ⟨v3, xs3, vb3, b3, vl3, l3, rfl, g1, g2, g3⟩ := erY_mk eb2
  obtain ⟨t3, rfl, eg1⟩ := erXs_one g1
  cases erYs_nil g2
  cases erYs_nil g3
  obtain ⟨v4, kids4, rfl, g4⟩ := erX_mk eg1
  obtain ⟨t5, t6, rfl, g5, g6⟩ := erXs_two g4
  obtain ⟨v5, kids5, rfl, eg5⟩ := erX_mk g5
  cases erXs_nil eg5
  obtain ⟨v6, kids6, rfl, eg6⟩ := erX_mk g6
  cases erXs_nil eg6
  obtain ⟨v7, kids7, rfl, e7⟩ := erX_mk e1
  cases erXs_nil e7
  obtain ⟨v8, kids8, rfl, e8⟩ := erX_mk e1'
  cases erXs_nil e8
  have hm := fresh_nm hx
  have kj := gN_st2 hj
  have hjb := gN_bd (by decide) hj
  have hi1 := hi.var hv
  have hi2 := hi1.same kj
  have hs2 : Nm s1 := Nm.same (s := { s with vars := s.vars + 1 }) hs kj.1
  obtain ⟨⟨a1, a2, a3⟩, a4⟩ := ha.gy hc hi2 hs2 b1 hb1
  have hj0 : oW j := ⟨hjb.1, by omega⟩
  have hn : GX (.mk 2 0 x v8 []) := ⟨oW0, hm, Nat.zero_le _, trivial⟩
  have hn5 : GX (.mk 2 0 x v5 []) := ⟨oW0, hm, Nat.zero_le _, trivial⟩
  have hn6 : GX (.mk 1 1 oNil v6 []) := ⟨by decide, nmB_of rfl, Nat.zero_le _, trivial⟩
  have hd : GX (.mk 7 0 oSub v4 [.mk 2 0 x v5 [], .mk 1 1 oNil v6 []]) := ⟨oW0, nmB_of rfl, by show 2 ≤ 1000000; decide, hn5, hn6, trivial⟩
  have hdy : GY (.mk 2 x v3 [.mk 7 0 oSub v4 [.mk 2 0 x v5 [], .mk 1 1 oNil v6 []]] vb3 [] vl3 []) := ⟨hm, ⟨by show 1 ≤ 1000000; decide, hd, trivial⟩, ⟨Nat.zero_le _, trivial⟩, Nat.zero_le _, trivial⟩
  refine ⟨⟨⟨⟨hm, ⟨by show 1 ≤ 1000000; decide, ⟨hj0, nmB_of rfl, Nat.zero_le _, trivial⟩, trivial⟩, ⟨Nat.zero_le _, trivial⟩, Nat.zero_le _, trivial⟩, ⟨nmB_of rfl, ⟨by show 1 ≤ 1000000; decide, hn, trivial⟩, ⟨by rw [List.length_append, List.length_singleton]; omega, GYs_app a1 ⟨hdy, trivial⟩⟩, Nat.zero_le _, trivial⟩, trivial⟩, ?_, ?_⟩, by show 2 ≤ 2; decide⟩
  ·simp only [nYs, nY, nXs, nX, nYs_app]
   have k1 : s1.left = s.left := kj.2.1
   show _ ≤ 4000 * (s.left - s2.left) + 4000
   omega
  ·intro y hy
   rcases List.mem_append.1 hy with hy | hy
   ·exact a3 _ hy
   ·rw [List.mem_singleton.1 hy]; exact hm
 | _, _, s, _, _, .ret hj hp, hi, hs, ts, ht => by
  obtain ⟨t, rfl, hty⟩ := erYs_one ht
  obtain ⟨v, xs, vb, b, vl, l, rfl, h1, h2, h3⟩ := erY_mk hty
  obtain ⟨t1, rfl, e1⟩ := erXs_one h1
  cases erYs_nil h2
  cases erYs_nil h3
  have kj := gN_st2 hj
  have hg := hp.gx hc (hs.same kj.1) t1 e1
  have hk := keep_tr kj hp.keep
  have hy := es1_ok (k := 6) (v := v) (vb := vb) (vl := vl) (nm := oNil) (nmB_of rfl) hg (by decide)
  exact ⟨one_sok ⟨hy.1, by have := hy.2; omega⟩ (by rw [hk.2.1]; exact Int.le_refl _) (hs.same hk.1), by show 1 ≤ 2; decide⟩
 | _, _, s, _, _, .dos (s2 := s2) (s3 := s3) (f := f) h hj hj2 hf hp, hi, hs, ts, ht => by
  obtain ⟨t, rfl, hty⟩ := erYs_one ht
  obtain ⟨v, xs, vb, b, vl, l, rfl, h1, h2, h3⟩ := erY_mk hty
  obtain ⟨t1, rfl, e1⟩ := erXs_one h1
  cases erYs_nil h2
  cases erYs_nil h3
  have k1 : s3.names = s2.names ∧ s3.left = s2.left ∧ s3.vars = s2.vars := by
   rcases hf with ⟨_, _, h⟩ | ⟨_, j3, h, _⟩
   ·rw [h]; exact ⟨rfl, rfl, rfl⟩
   ·exact gN_st2 h
  have hfm : f ∈ c.fs := by
   rcases hf with ⟨_, h, _⟩ | ⟨_, j3, _, h⟩ <;> exact List.mem_of_getElem? h
  have kj := keep_tr (keep_tr (gN_st2 hj) (gN_st2 hj2)) k1
  have hg := hp.gx hc hfm (hs.same kj.1) t1 e1
  have hk := keep_tr kj hp.keep
  have hy := es1_ok (k := 8) (v := v) (vb := vb) (vl := vl) (nm := oNil) (d := 2) (nmB_of rfl) hg (by decide)
  exact ⟨one_sok ⟨hy.1, by have := hy.2; omega⟩ (by rw [hk.2.1]; exact Int.le_refl _) (hs.same hk.1), by show 1 ≤ 2; decide⟩
 | _, _, s, _, _, .out (s1 := s1) _ _ _ _ _ _ h8 _ hp, hi, hs, ts, ht => by
  obtain ⟨t, rfl, hty⟩ := erYs_one ht
  obtain ⟨v, xs, vb, b, vl, l, rfl, h1, h2, h3⟩ := erY_mk hty
  obtain ⟨t1, rfl, e1⟩ := erXs_one h1
  cases erYs_nil h2
  cases erYs_nil h3
  have k1 : s1.names = s.names ∧ s1.left = s.left ∧ s1.vars = s.vars := by
   rcases h8 with ⟨_, h⟩ | ⟨_, j, _, h⟩
   ·rw [h]; exact ⟨rfl, rfl, rfl⟩
   ·exact gN_st2 h
  have hg := hp.gx hc (hs.same k1.1) t1 e1
  have hk := keep_tr k1 hp.keep
  have hy := es1_ok (k := 7) (v := v) (vb := vb) (vl := vl) (nm := oNil) (nmB_of rfl) hg (by decide)
  exact ⟨one_sok ⟨hy.1, by have := hy.2; omega⟩ (by rw [hk.2.1]; exact Int.le_refl _) (hs.same hk.1), by show 1 ≤ 2; decide⟩
end
mutual
theorem GYr.left0 {c : Gc} : ∀ {e : Nat} {s s' : Gs} {o : List Py}, GYr c e s o s' → 0 ≤ s.left → 0 ≤ s'.left
 | _, _, _, _, .mk hj h, hi => h.left0 (by rw [(gN_st2 hj).2.1]; exact hi)
theorem GLr.left0 {c : Gc} : ∀ {e n : Nat} {s s' : Gs} {o : List Py}, GLr c e n s o s' → 0 ≤ s.left → 0 ≤ s'.left
 | _, _, _, _, _, .zero, hi => hi
 | _, _, _, _, _, .stop _, hi => hi
 | _, _, s, _, _, .step hl hk h1 h2, hi => h2.left0 (h1.left0 (by rw [(gN_st2 hk).2.1]; show 0 ≤ s.left - 1; omega))
theorem G1r.left0 {c : Gc} : ∀ {e : Nat} {k : Int} {s s' : Gs} {o : List Py}, G1r c e k s o s' → 0 ≤ s.left → 0 ≤ s'.left
 | _, _, s, _, _, .var (s1 := s1) _ _ _ hp, hi => by show 0 ≤ s1.left; rw [hp.keep.2.1]; exact hi
 | _, _, _, _, _, .set _ hj _ hp, hi => by rw [(keep_tr (gN_st2 hj) hp.keep).2.1]; exact hi
 | _, _, _, _, _, .put _ hp hq, hi => by rw [(keep_tr hp.keep hq.keep).2.1]; exact hi
 | _, _, _, _, _, .iff1 hp ha hj hb, hi => hb.left0 (by rw [(gN_st2 hj).2.1]; exact ha.left0 (by rw [hp.keep.2.1]; exact hi))
 | _, _, _, _, _, .iff0 hp ha hj _, hi => by rw [(gN_st2 hj).2.1]; exact ha.left0 (by rw [hp.keep.2.1]; exact hi)
 | _, _, s, _, _, .whi (s2 := s2) _ _ hj ha, hi => by show 0 ≤ s2.left; exact ha.left0 (by rw [(gN_st2 hj).2.1]; exact hi)
 | _, _, _, _, _, .ret hj hp, hi => by rw [(keep_tr (gN_st2 hj) hp.keep).2.1]; exact hi
 | _, _, s, _, _, .dos (s2 := s2) (s3 := s3) _ hj hj2 hf hp, hi => by
  have k1 : s3.names = s2.names ∧ s3.left = s2.left ∧ s3.vars = s2.vars := by
   rcases hf with ⟨_, _, h⟩ | ⟨_, j3, h, _⟩
   ·rw [h]; exact ⟨rfl, rfl, rfl⟩
   ·exact gN_st2 h
  rw [(keep_tr (keep_tr (keep_tr (gN_st2 hj) (gN_st2 hj2)) k1) hp.keep).2.1]; exact hi
 | _, _, s, _, _, .out (s1 := s1) _ _ _ _ _ _ h8 _ hp, hi => by
  have k1 : s1.names = s.names ∧ s1.left = s.left ∧ s1.vars = s.vars := by
   rcases h8 with ⟨_, h⟩ | ⟨_, j, _, h⟩
   ·rw [h]; exact ⟨rfl, rfl, rfl⟩
   ·exact gN_st2 h
  rw [(keep_tr k1 hp.keep).2.1]; exact hi
end
/-- The names of functions and of parameters. -/
def hNames : List ByteArray := [nMain, ⟨#[102]⟩, ⟨#[103]⟩, ⟨#[116, 119, 101, 108, 118, 101, 108, 101, 116, 116, 101, 114]⟩]
def pNames : List ByteArray := [⟨#[112]⟩, ⟨#[113]⟩, ⟨#[114]⟩, ⟨#[115]⟩]
/-- The head of function i. -/
def hd1 (l : List Int) (i : Nat) (s : Gs) : (ByteArray × List ByteArray) × Gs :=
 let q := if 0 < i then gN l 5 s else (0, s)
 ((hNames.getD i oNil, pNames.take q.1.toNat), q.2)
/-- The first i heads. -/
def hds (l : List Int) (s : Gs) : Nat → List (ByteArray × List ByteArray) × Gs
 | 0 => ([], s)
 | i + 1 => let r := hds l s i; let q := hd1 l i r.2; (r.1 ++ [q.1], q.2)
def gs0 : Gs := ⟨0, 0, 0, 0, []⟩
/-- The bodies of the first i functions. -/
inductive GBr (l : List Int) (fs : List (ByteArray × List ByteArray)) (s0 : Gs) : Nat → List Pf → Gs → Prop
 | zero : GBr l fs s0 0 [] s0
 | step {i : Nat} {ps : List Pf} {s s2 : Gs} {f : ByteArray × List ByteArray} {b : List Py} (h : GBr l fs s0 i ps s) (hf : fs[i]? = some f) (hb : GYr ⟨l, i, fs⟩ 3 { s with left := 8, nodes := 150, vars := 0, names := f.2 } b s2) : GBr l fs s0 (i + 1) (ps ++ [⟨f.1, f.2, b⟩]) s2
def gMany (l : List Int) : Nat := (1 + (gN l 4 gs0).1).toNat
def gHds (l : List Int) : List (ByteArray × List ByteArray) × Gs := hds l (gN l 4 gs0).2 (gMany l)
/-- The programs that a list of numbers determines. -/
def GMr (l : List Int) (ps : List Pf) : Prop := ∃ s, GBr l (gHds l).1 (gHds l).2 (gMany l) ps s
theorem hNames_nm (i : Nat) : nmB (hNames.getD i oNil) := by
 rcases i with _ | _ | _ | _ | i <;> exact nmB_of rfl
theorem pNames_nm : ∀ x ∈ pNames, nmB x := by
 intro x hx
 simp only [pNames, List.mem_cons, List.not_mem_nil, or_false] at hx
 rcases hx with rfl | rfl | rfl | rfl <;> exact nmB_of rfl
theorem hds_len (l : List Int) (s : Gs) : ∀ i, (hds l s i).1.length = i
 | 0 => rfl
 | i + 1 => by rw [hds]; simp only [List.length_append, List.length_singleton, hds_len l s i]
def Hok (f : ByteArray × List ByteArray) : Prop := nmB f.1 ∧ f.2.length ≤ 4 ∧ ∀ x ∈ f.2, nmB x
theorem hd1_ok (l : List Int) (i : Nat) (s : Gs) : Hok (hd1 l i s).1 :=
 ⟨hNames_nm i, by unfold hd1; rw [List.length_take]; exact Nat.min_le_right _ _, fun x hx => pNames_nm x (List.mem_of_mem_take hx)⟩
theorem hds_ok (l : List Int) (s : Gs) : ∀ i, ∀ f ∈ (hds l s i).1, Hok f
 | 0, f, h => by simp [hds] at h
 | i + 1, f, h => by
  rw [hds] at h
  rcases List.mem_append.1 h with h | h
  ·exact hds_ok l s i f h
  ·rw [List.mem_singleton.1 h]; exact hd1_ok _ _ _
theorem gMany_bd (l : List Int) : 1 ≤ gMany l ∧ gMany l ≤ 4 := by
 have := gN_bnd l (n := 4) (by decide) gs0
 unfold gMany
 omega
theorem GBr.gf {l : List Int} {fs : List (ByteArray × List ByteArray)} {s0 : Gs} (hf : ∀ f ∈ fs, Hok f) : ∀ {i : Nat} {ps : List Pf} {s : Gs}, GBr l fs s0 i ps s → ∀ ts : List Tf, ts.map erF = ps → ts.length = i ∧ ∀ t ∈ ts, GF t
 | _, _, _, .zero, ts, ht => by
  cases List.map_eq_nil_iff.1 ht
  exact ⟨rfl, fun t h => by simp at h⟩
 | _, _, _, .step (s := s) (s2 := s2) (f := f) (b := b) h hx hb, ts, ht => by
  obtain ⟨u, v, rfl, hu, hv⟩ := List.map_eq_append_iff.1 ht
  obtain ⟨t, r, rfl, h1, hr⟩ := List.map_eq_cons_iff.1 hv
  cases List.map_eq_nil_iff.1 hr
  obtain ⟨i1, i2⟩ := h.gf hf u hu
  have hfk := hf f (List.mem_of_getElem? hx)
  have hbi : GInv { s with left := 8, nodes := 150, vars := 0, names := f.2 } := ⟨Int.le_refl _, by show (0 : Int) ≤ 8; decide, by show (f.2.length : Int) ≤ 100 + 0; have := hfk.2.1; omega, by show (8 : Int) ≤ 1000; decide⟩
  have hbn : Nm { s with left := 8, nodes := 150, vars := 0, names := f.2 } := hfk.2.2
  have hbody : erYs t.body = b := congrArg Pf.body h1
  have hname : t.name = f.1 := congrArg Pf.name h1
  have hps : t.ps = f.2 := congrArg Pf.ps h1
  obtain ⟨⟨a1, a2, a3⟩, a4⟩ := hb.gy (fun f h => ⟨(hf f h).1, (hf f h).2.1⟩) hbi hbn t.body hbody
  have hl0 : 0 ≤ s2.left := hb.left0 (by show (0 : Int) ≤ 8; decide)
  refine ⟨by rw [List.length_append, i1]; rfl, fun t' ht' => ?_⟩
  rcases List.mem_append.1 ht' with h' | h'
  ·exact i2 t' h'
  ·rw [List.mem_singleton.1 h']
   have h5 := hfk.2.1
   have a2' : (nYs t.body : Int) ≤ 4000 * (8 - s2.left) + 0 := a2
   exact ⟨hname ▸ hfk.1, hps ▸ hfk.2.2, by rw [hps]; omega, by omega, a1, by rw [hps]; omega⟩
theorem gMr_gp {l : List Int} {ts : List Tf} (h : GMr l (ts.map erF)) : GP ts := by
 obtain ⟨s, h⟩ := h
 obtain ⟨h1, h2⟩ := h.gf (hds_ok _ _ _) ts rfl
 have := gMany_bd l
 exact ⟨by omega, h2⟩
end Go.Proofs.YtdcbbkpdlcojfaaGreat
namespace Go.Proofs.YtdcbbkpdlcojfaaGreat
set_option linter.unusedSimpArgs false
set_option linter.unusedVariables false
open Go.RowKit

section
variable {P : Program} {N : Nat} {w0 : World} {M H : Nat → Prop} {E : Env} {Γ R : Ctx} {d : Nat} {T : TypeId} {ps : String} {af : Array Edge}
theorem ms_appendG {α : Type} {S U : TypeId} {D : TypeDesc} {z : Value} {s bb : Nat} {enc : α → List Value} {x y : Operand} {v v2 v0 : Value} {l l2 l0 : List α} (k : Nat) (hS : P.underlying S = some (.slice U)) (hU : TI P U D z s bb) (hzs : z.cells.size = s) (hs0 : 0 < s) (he : ∀ x, (enc x).length = s) (h1 : ∀ x, (enc x).all (·.oneCell') = true)
  (hx : ev E x = some v) (hy : ev E y = some v2) (hk : cget Γ k = some (own U s enc v0 l0)) (hown : ∀ w G, (own U s enc v0 l0).pred w G → (own U s enc v l).pred w G) (h2 : SlS w0 M H Γ R s enc v2 l2) (hm : (l.length + l2.length) * bb ≤ 140737488355328) (hm' : l.length + l2.length ≤ maxLen)
  : MS P N w0 M H E Γ R ⟨some d, .call { callee := .builtin .append, args := #[x, y], argTypes := #[S, S] }, T, ps, af, none⟩ (X := SV) (fun _ => True) (fun v' => sv v') (fun v' => (k, own U s enc (sv v') (l ++ l2)) :: Γ) (fun _ => R) := by
 refine ms_gen fun a w hE hC => ?_
 obtain ⟨G0, hp00, hlt0⟩ := hC.reads (.inl hk)
 have hp0 := hown _ _ hp00
 obtain ⟨G2, c, h3, h4, h5⟩ := h2 w hC
 obtain ⟨i, i1, i2, i3, i4⟩ := hU.info
 have hfl : ∀ l' : List α, (l'.flatMap enc).length = l'.length * s := flatMap_len he
 rcases h5 with ⟨rfl, _, rfl⟩ | ⟨b2, o2, rfl, _, hc2⟩
 ·obtain ⟨xv, rfl⟩ := ownsRow_sv hp0.2
  refine ⟨xv, w, trivial, ?_, ?_⟩
  ·have hr := run_append_owned_none (P := P) w 0 S T U i s hS i1 (sv xv) l.length _ hp0.2
   simp [execOp, resolve, invoke, builtin, hE.ev hx, hE.ev hy, hr]
  ·simp only [List.append_nil]
   exact hC.upd hk fun G hG0 hGlt => ⟨G, hown _ _ hG0, fun b hb => ⟨hGlt b hb, fun _ => hb⟩, Touch.refl _ _⟩
 ·obtain ⟨v', w', hr, ho, hg, hn⟩ := run_append_own (P := P) w 0 S T U i z s bb hS i1 i2 i3 i4 hzs hs0 v l.length _ hp0.2 ⟨b2, o2, none⟩ l2.length c (l2.flatMap enc) (hfl l2)
   (fun j u hj => by rw [add_lit']; exact hc2 j u hj) (fun u hu => by obtain ⟨x, _, hxu⟩ := List.mem_flatMap.1 hu; simpa using List.all_eq_true.1 (h1 x) u hxu) hm' hm (Nat.zero_le _)
  obtain ⟨xv, rfl⟩ := ownsRow_sv ho
  refine ⟨xv, w', trivial, ?_, ?_⟩
  ·simp [execOp, resolve, invoke, builtin, hE.ev hx, hE.ev hy, hr]
  ·refine hC.upd hk fun G hG0 hGlt => by
    have hG := hown _ _ hG0
    refine ⟨fun b => (sv xv).ownBlock = some b, ⟨fun x => Iff.rfl, ?_⟩, fun b hb => ⟨(ho.lt b hb).2, fun hlt => ?_⟩, ⟨hg.os, hg.tape, hg.output, hg.size, fun i hi hne => hg.block i hi (fun e => hne ((hG.1 i).2 e.symm))⟩⟩
    ·rw [List.length_append, List.flatMap_append]; exact ho
    ·rcases hp0.2.2 with ⟨rfl, hl0⟩ | ⟨g, cap, cur, rfl, hbg, hgg, hnc, hcm, hcs, htake⟩
     ·exfalso
      have hl : l = [] := List.eq_nil_of_length_eq_zero hl0
      subst hl
      by_cases hz : l2.length = 0
      ·have hl2 : l2 = [] := List.eq_nil_of_length_eq_zero hz
       subst hl2
       have := (hn.2 ⟨rfl, rfl⟩)
       rw [this] at hb
       simp [Value.ownBlock] at hb
      ·have hr2 := run_append_nil (P := P) w S T U i z hS i1 i2 ⟨b2, o2, none⟩ l2.length c (l2.flatMap enc) (by rw [hfl, i3]) (fun j u hj => by rw [add_lit']; exact hc2 j u hj) (by simpa using Nat.pos_of_ne_zero hz) (by simp only [maxLen] at hm'; simp at hm'; omega) (by rw [i4]; simp at hm; omega)
       rw [hr2] at hr
       injection hr with hr3 hr4
       replace hb : (sv xv).ownBlock = some b := hb
       rw [← hr3] at hb
       simp [Value.ownBlock] at hb
       omega
     ·by_cases hroom : l.length + l2.length ≤ cap
      ·have hfit : l.length * i.size + (l2.flatMap enc).length ≤ cur.size := by rw [hfl, hcs, i3, ← Nat.add_mul]; exact Nat.mul_le_mul_right _ hroom
       have hr2 := run_append_room (P := P) w S T U i hS i1 g l.length cap cur hgg ⟨b2, o2, none⟩ l2.length c (l2.flatMap enc) (by rw [hfl, i3]) (fun j u hj => by rw [add_lit']; exact hc2 j u hj) (fun u hu => by obtain ⟨x, _, hxu⟩ := List.mem_flatMap.1 hu; simpa using List.all_eq_true.1 (h1 x) u hxu) hroom hfit
       rw [hr2] at hr
       injection hr with hr3 hr4
       replace hb : (sv xv).ownBlock = some b := hb
       rw [← hr3] at hb
       simp [Value.ownBlock] at hb
       subst hb
       exact (hG.1 g).2 rfl
      ·exfalso
       have holds := hp0.2.cells (g := g) rfl
       have hr2 := run_append_grow (P := P) w S T U i z hS i1 i2 ⟨g, 0, none⟩ l.length cap (l.flatMap enc) (by rw [hfl, i3]) holds ⟨b2, o2, none⟩ l2.length c (l2.flatMap enc) (by rw [hfl, i3]) (fun j u hj => by rw [add_lit']; exact hc2 j u hj) (by omega) (by simp only [maxLen] at hm'; omega) (growslice_fits (by omega) (by rw [i4]; exact hm))
       rw [hr2] at hr
       injection hr with hr3 hr4
       replace hb : (sv xv).ownBlock = some b := hb
       rw [← hr3] at hb
       simp [Value.ownBlock] at hb
       omega
end
/-- All parts of functions can be read. -/
def fsA (l : List Tf) : Asn := ⟨fun w F => ∀ f ∈ l, TfIn w F f, fun h hs f hf => (h f hf).stable hs⟩
/-- The heads that were made, and the functions that are finished. -/
def tgA (v : SV) (l o : List Tf) : Asn := ⟨fun w F => (SlIn' w F 3 eTf (sv v) l ∧ ∀ f ∈ l, TfIn w F f) ∧ ∀ f ∈ o, TfIn w F f, fun h hs => ⟨⟨h.1.1.stable hs, fun f hf => (h.1.2 f hf).stable hs⟩, fun f hf => (h.2 f hf).stable hs⟩⟩
theorem TfIn.up {w : World} {F G : Nat → Prop} {f : Tf} (h : TfIn w G f) (hs : ∀ b, G b → F b) : TfIn w F f := by
 obtain ⟨⟨A, a1, a2⟩, ⟨⟨B, b1, b2⟩, b3⟩⟩ := h
 exact ⟨⟨A, a1, fun b hb => hs b (a2 b hb)⟩, ⟨⟨B, b1, fun b hb => hs b (b2 b hb)⟩, TysIn.mono hs (fun _ _ => rfl) _ b3⟩⟩
theorem SlIn'.up {α : Type} {w : World} {F G : Nat → Prop} {s : Nat} {enc : α → List Value} {v : Value} {l : List α} (h : SlIn' w G s enc v l) (hs : ∀ b, G b → F b) : SlIn' w F s enc v l := by
 obtain ⟨A, a1, a2⟩ := h
 exact ⟨A, a1, fun b hb => hs b (a2 b hb)⟩
abbrev tfHd (nm : ByteArray) (v : SV) (ps : List ByteArray) : Tf := ⟨nm, v, ps, nilS, []⟩
theorem fs_add {l : List Tf} {nm : ByteArray} {v : SV} {ps : List ByteArray} (w : World) (F : Nat → Prop) (h : AllIn w F [fsA l, own 9 1 eS (sv v) ps]) : (fsA (l ++ [tfHd nm v ps])).pred w F := by
 obtain ⟨⟨_, a0, b0⟩, ⟨_, a1, b1⟩, _⟩ := h
 intro f hf
 rcases List.mem_append.1 hf with hf | hf
 ·exact (a0 f hf).up b0
 ·rw [List.mem_singleton.1 hf]
  exact ⟨own_in a1 b1, nil_in, trivial⟩
theorem tg_of {l : List Tf} {v : SV} (w : World) (F : Nat → Prop) (h : AllIn w F [own 63 3 eTf (sv v) l, fsA l]) : (tgA v l []).pred w F := by
 obtain ⟨⟨_, a0, b0⟩, ⟨_, a1, b1⟩, _⟩ := h
 exact ⟨⟨own_in a0 b0, fun f hf => (a1 f hf).up b1⟩, fun f hf => by simp at hf⟩
theorem tg_add {l o : List Tf} {v vb : SV} {f : Tf} {body : List Ty} (hf : f ∈ l) (w : World) (F : Nat → Prop) (h : AllIn w F [tgA v l o, own 53 5 eTy (sv vb) body, ysA body]) : (tgA v l (o ++ [⟨f.name, f.vp, f.ps, vb, body⟩])).pred w F := by
 obtain ⟨⟨_, a0, b0⟩, ⟨_, a1, b1⟩, ⟨_, a2, b2⟩, _⟩ := h
 refine ⟨⟨a0.1.1.up b0, fun f hf => (a0.1.2 f hf).up b0⟩, fun g hg => ?_⟩
 rcases List.mem_append.1 hg with hg | hg
 ·exact (a0.2 g hg).up b0
 ·rw [List.mem_singleton.1 hg]
  exact ⟨((a0.1.2 f hf).up b0).1, own_in a1 b1, ys_up a2 b2⟩
theorem tfs_of {l o : List Tf} {v vo : SV} (w : World) (F : Nat → Prop) (h : AllIn w F [own 63 3 eTf (sv vo) o, tgA v l o]) : (tfsA vo o).pred w F := by
 obtain ⟨⟨_, a0, b0⟩, ⟨_, a1, b1⟩, _⟩ := h
 exact ⟨own_in a0 b0, fun f hf => (a1.2 f hf).up b1⟩
theorem SlS.tg {w0 : World} {M H : Nat → Prop} {Γ R : Ctx} {k : Nat} {v : SV} {l o : List Tf} (h : cget Γ k = some (tgA v l o)) : SlS w0 M H Γ R 3 eTf (sv v) l := fun w hC => by
 obtain ⟨G, h1, _⟩ := hC.reads (.inl h)
 obtain ⟨A, a1, _⟩ := h1.1.1
 exact ⟨A, a1⟩
theorem SlS.tgp {w0 : World} {M H : Nat → Prop} {Γ R : Ctx} {k : Nat} {v : SV} {l o : List Tf} {f : Tf} (h : cget Γ k = some (tgA v l o)) (hf : f ∈ l) : SlS w0 M H Γ R 1 eS (sv f.vp) f.ps := fun w hC => by
 obtain ⟨G, h1, _⟩ := hC.reads (.inl h)
 obtain ⟨A, a1, _⟩ := (h1.1.2 f hf).1
 exact ⟨A, a1⟩
theorem tg2of2 {A : Asn} {v : SV} {l o : List Tf} : ∀ (i : Nat) (X : Asn), ([A, tfsA v l] : List Asn)[i]? = some X → ∃ Y, ([A, tgA v l o] : List Asn)[i]? = some Y ∧ ∀ w G, Y.pred w G → X.pred w G
 | 0, X, hX => ⟨A, rfl, by cases hX; exact fun _ _ h => h⟩
 | 1, X, hX => ⟨tgA v l o, rfl, by cases hX; exact fun _ _ h => h.1⟩
 | i + 2, X, hX => by simp at hX
/-- The contract of a function's block. -/
theorem gst_tg {e : Ge} (he : Gfine e) (o : List Tf) (s : Gs) (vn : SV) (hi : GInv s) : Spec Tryz.prog 32 [.pointer (some ⟨e.g, 0, none⟩), .int .i64 1] [row e.g 76 (gRow e.vl s vn e.c.me e.vf), own 9 1 eS (sv vn) s.names] [sl 1 eI (sv e.vl) e.c.l, tgA e.vf e.F o] (X := SV × List Ty × Gs × SV) (fun x => GYr e.c 3 s (erYs x.2.1) x.2.2.1 ∧ x.2.1.length ≤ 10) (fun x => sv x.1)
 (fun x => [row e.g 76 (gRow e.vl x.2.2.1 x.2.2.2 e.c.me e.vf), own 9 1 eS (sv x.2.2.2) x.2.2.1.names, own 53 5 eTy (sv x.1) x.2.1, ysA x.2.1]) (fun _ => []) :=
 Spec.roAll (hgy_all he 3 (by decide) s vn hi) tg2of2
structure Xh where
 i : Nat
 vf : SV
 F : List Tf
 s : Gs
structure Xbo where
 i : Nat
 vo : SV
 out : List Tf
 s : Gs
 vn : SV
 me : Nat
abbrev tfH (f : Tf) : ByteArray × List ByteArray := (f.name, f.ps)
theorem hds_next {l : List Int} {s0 s sb : Gs} {F : List Tf} {i jn : Nat} {nm : ByteArray} {jy : Int} {v : SV} (h : hds l s0 i = (F.map tfH, s)) (hnm : hNames[i]? = some nm) (hy : (jy, sb) = (if 0 < i then gN l 5 s else (0, s))) (hj : jy = (jn : Int)) : hds l s0 (i + 1) = ((F ++ [tfHd nm v (pNames.take jn)]).map tfH, sb) := by
 rw [hds]
 simp only [h, hd1]
 rw [← hy]
 simp only [List.map_append, List.map_cons, List.map_nil, tfH, tfHd]
 rw [List.getD_eq_getElem?_getD, hnm, hj]
 rfl
set_option maxHeartbeats 4000000 in
set_option maxRecDepth 100000 in
theorem made_spec (vl : SV) (l : List Int) (hl : l.length ≤ 1000) (hlo : ∀ x ∈ l, okI x) :
  Spec Tryz.prog 10 [sv vl] [] [sl 1 eI (sv vl) l] (X := SV × List Tf) (fun x => GMr l (x.2.map erF)) (fun x => .agg #[sv x.1]) (fun x => [tfsA x.1 x.2]) (fun _ => []) := by
 refine r_enter Tryz.func10 rfl Tryz.ntmps10 rfl fun w0 M H => ?_
 have hj0 := gN_bnd l (n := 4) (by decide) gs0
 have hmb := gMany_bd l
 refine r_seq ?_
 refine r_region ?_
 refine r_alloc t29 rfl rfl fun b2 => ?_
 refine r_nil ?_
 refine r_seq ?_
 refine r_region ?_
 refine r_p (p_move rfl) rfl ?_
 refine r_p (p_build (parts := [(0, .tmp 12)]) t76 pl76 rfl rfl) rfl ?_
 refine r_boxA rfl rfl fun b14 => ?_
 refine r_p (p_assign rfl) rfl ?_
 refine r_nil ?_
 refine r_seq ?_
 refine r_region ?_
 refine r_bslice eS pNames (parts := [(0, .const (.string (ByteArray.mk #[112]))), (1, .const (.string (ByteArray.mk #[113]))), (2, .const (.string (ByteArray.mk #[114]))), (3, .const (.string (ByteArray.mk #[115])))]) Tryz.underlying58 t9 rfl (by decide) (by intro _; rfl) rfl (by decide) (by decide) rfl rfl rfl rfl fun v15 => ?_
 refine r_p (p_assign rfl) rfl ?_
 refine r_nil ?_
 refine r_seq ?_
 refine r_region ?_
 refine r_bslice eS hNames (parts := [(0, .const (.string (ByteArray.mk #[109, 97, 105, 110]))), (1, .const (.string (ByteArray.mk #[102]))), (2, .const (.string (ByteArray.mk #[103]))), (3, .const (.string (ByteArray.mk #[116, 119, 101, 108, 118, 101, 108, 101, 116, 116, 101, 114])))]) Tryz.underlying58 t9 rfl (by decide) (by intro _; rfl) rfl (by decide) (by decide) rfl rfl rfl rfl fun v16 => ?_
 refine r_p (p_assign rfl) rfl ?_
 refine r_nil ?_
 refine r_seq ?_
 refine r_region ?_
 refine r_p (p_move rfl) rfl ?_
 refine r_callN (xs := [.tmp 17, .const (.int .i64 4)]) (gnext_spec b14 vl nilS nilS ⟨l, 0, []⟩ hl hlo 4 (by decide) gs0) cb31 [14] [(false, 0)] [14] rfl rfl rfl rfl rfl rfl rfl rfl (fun _ _ => rfl) (fun _ _ _ => rfl) rfl (fun _ _ => ?_)
 refine r_p (p_bin rfl rfl (b_add (c := (gMany l : Int)) (by unfold gMany; rw [show (1 : Int) + (gN l 4 gs0).1 = (((1 + (gN l 4 gs0).1).toNat : Nat) : Int) by omega]; exact w_i64 (by omega) (by omega)))) rfl ?_
 refine r_p (p_assign rfl) rfl ?_
 refine r_nil ?_
 refine r_seq ?_
 refine r_seq ?_
 refine r_region ?_
 refine r_p (p_assign rfl) rfl ?_
 refine r_nil ?_
 refine r_block ?_
 refine r_nilown 60 (α := Tf) (S := 63) (s := 3) (enc := eTf) ?_
 refine r_collect 40 [] (L := []) (C := fsA []) rfl (fun _ _ _ f hf => by simp at hf) ?_
 refine r_loop (X := Xh) (fun x => x.i ≤ gMany l ∧ hds l (gN l 4 gs0).2 x.i = (x.F.map tfH, x.s) ∧ (∀ f ∈ x.F, f.vb = nilS ∧ f.body = [])) (fun x => [(2, .pointer (some ⟨b2, 0, none⟩)), (3, .pointer (some ⟨b14, 0, none⟩)), (4, sv v15), (5, sv v16), (6, .int .i64 (gMany l : Int)), (7, .int .i64 (x.i : Int))]) (fun x => [(2, row b2 29 [sv nilS]), (14, row b14 76 (gRow vl (x.s) nilS 0 x.vf)), (15, own 9 1 eS (sv v15) pNames), (16, own 9 1 eS (sv v16) hNames), (60, own 63 3 eTf (sv x.vf) x.F), (40, fsA x.F)]) (fun x => [(0, sl 1 eI (sv vl) l)]) (fun x => gMany l - x.i) ⟨0, nilS, [], (gN l 4 gs0).2⟩ ⟨Nat.zero_le _, rfl, fun f hf => by simp at hf⟩ rfl rfl rfl (fun x hx0 => ?_)
 obtain ⟨i, vf, F, s⟩ := x
 obtain ⟨n1, n2, n3⟩ := hx0
 dsimp only at n1 n2 n3 ⊢
 have hFl : F.length = i := by have h := hds_len l (gN l 4 gs0).2 i; rw [n2, List.length_map] at h; exact h
 refine r_seq ?_
 refine r_seq ?_
 refine r_region ?_
 refine r_p (p_move rfl) rfl ?_
 refine r_p (p_move rfl) rfl ?_
 refine r_p (p_bin rfl rfl b_lt) rfl ?_
 refine r_nil ?_
 refine r_cond rfl (fun h1 => ?_) (fun h1 => ?_)
 ·(try simp only [decide_eq_true_eq, decide_eq_false_iff_not, Bool.and_eq_true, Bool.or_eq_true, Bool.and_eq_false_iff, Bool.or_eq_false_iff, Bool.not_eq_true, Bool.not_eq_false, Bool.not_eq_true', Bool.not_eq_false', Bool.not_not, bne_iff_ne, beq_iff_eq] at h1)
  have hi2 : i < gMany l := by omega
  refine r_skip ?_
  refine r_seq ?_
  refine r_block ?_
  refine r_seq ?_
  refine r_region ?_
  refine r_p (p_assign rfl) rfl ?_
  refine r_nil ?_
  refine r_seq_cut (X := Int × Gs) (fun y => y = (if 0 < i then gN l 5 s else (0, s))) (fun y => [(2, .pointer (some ⟨b2, 0, none⟩)), (3, .pointer (some ⟨b14, 0, none⟩)), (4, sv v15), (5, sv v16), (6, .int .i64 (gMany l : Int)), (7, .int .i64 (i : Int)), (8, .int .i64 y.1)]) (fun y => [(2, row b2 29 [sv nilS]), (14, row b14 76 (gRow vl (y.2) nilS 0 vf)), (15, own 9 1 eS (sv v15) pNames), (16, own 9 1 eS (sv v16) hNames), (60, own 63 3 eTf (sv vf) F), (40, fsA F)]) (fun y => [(0, sl 1 eI (sv vl) l)]) ?_ (fun y hy => ?_)
  ·refine r_seq ?_
   refine r_region ?_
   refine r_p (p_move rfl) rfl ?_
   refine r_p (p_bin rfl rfl b_gt) rfl ?_
   refine r_nil ?_
   refine r_cond rfl (fun h2 => ?_) (fun h2 => ?_)
   ·(try simp only [decide_eq_true_eq, decide_eq_false_iff_not, Bool.and_eq_true, Bool.or_eq_true, Bool.and_eq_false_iff, Bool.or_eq_false_iff, Bool.not_eq_true, Bool.not_eq_false, Bool.not_eq_true', Bool.not_eq_false', Bool.not_not, bne_iff_ne, beq_iff_eq] at h2)
    have hi0 : 0 < i := by omega
    refine r_region ?_
    refine r_p (p_move rfl) rfl ?_
    refine r_callN (xs := [.tmp 27, .const (.int .i64 5)]) (gnext_spec b14 vl nilS vf ⟨l, 0, []⟩ hl hlo 5 (by decide) s) cb31 [14] [(false, 0)] [14] rfl rfl rfl rfl rfl rfl rfl rfl (fun _ _ => rfl) (fun _ _ _ => rfl) rfl (fun _ _ => ?_)
    refine r_p (p_assign rfl) rfl ?_
    refine r_nil ?_
    refine r_here (gN l 5 s) (by rw [if_pos hi0]) rfl rfl rfl
   ·(try simp only [decide_eq_true_eq, decide_eq_false_iff_not, Bool.and_eq_true, Bool.or_eq_true, Bool.and_eq_false_iff, Bool.or_eq_false_iff, Bool.not_eq_true, Bool.not_eq_false, Bool.not_eq_true', Bool.not_eq_false', Bool.not_not, bne_iff_ne, beq_iff_eq] at h2)
    have hi0 : ¬ 0 < i := by omega
    refine r_skip ?_
    refine r_here (0, s) (by rw [if_neg hi0]) rfl rfl rfl
  ·obtain ⟨jy, sb⟩ := y
   dsimp only
   have hjb : 0 ≤ jy ∧ jy ≤ 4 := by
    split at hy
    ·have := gN_bnd l (n := 5) (by decide) s
     have h := congrArg Prod.fst hy
     dsimp only at h
     omega
    ·have h := congrArg Prod.fst hy
     dsimp only at h
     omega
   obtain ⟨jn, hjn⟩ : ∃ jn : Nat, jy = (jn : Int) := ⟨jy.toNat, by omega⟩
   have hjl : jn ≤ pNames.length := by show jn ≤ 4; omega
   have hiN : i < hNames.length := by show i < 4; omega
   obtain ⟨nm, hnm⟩ : ∃ nm, hNames[i]? = some nm := ⟨_, List.getElem?_eq_getElem hiN⟩
   refine r_draw [29, 30, 31, 32, 33, 34, 35, 36, 37, 38, 39, 40, 41, 42, 43, 44, 45, 46, 47] _ rfl (stg_mem (V := [(0, 29, _), (1, 30, _), (2, 31, _), (3, 32, _), (4, 33, _), (5, 34, _), (6, 35, _), (7, 36, _), (8, 37, _), (10, 39, _), (11, 40, _), (12, 41, _)]) [0, 1, 2, 3, 4, 5, 6, 7, 8, 10, 11, 12] 9 [9] [] (fun v38 => []) rfl rfl (prs_cons (pri rfl (p_move rfl)) (prs_cons (pri rfl (p_move rfl)) (prs_cons (pri rfl (p_nilCheck rfl)) (prs_cons (pri rfl (p_field0 fo76_7 rfl)) (prs_cons (pri rfl (p_load1 t27 rfl rfl (g_row1 (k := 14) rfl rfl))) (prs_cons (pri rfl (p_move rfl)) (prs_cons (pri rfl (p_move rfl)) (prs_cons (pri rfl (p_idx_sl (j := i) Tryz.underlying58 t9 rfl rfl (hs_own (k := 16) rfl) rfl hiN)) (prs_cons (pri rfl (p_load1 t9 rfl rfl (g_el' (hs_own (k := 16) rfl) (by intro _; rfl) hnm (by rfl)))) (prs_cons (pri rfl (p_move rfl)) (prs_cons (pri rfl (p_move rfl)) (prs_cons (pri rfl (p_slice_hi (j := jn) Tryz.underlying58 t9 rfl rfl (hs_own (k := 15) rfl) hjn hjl)) prs_nil)))))))))))) rfl rfl rfl rfl rfl rfl rfl rfl rfl rfl rfl (fun _ _ => rfl) rfl (ms_bslice0 eS Tryz.underlying58 t9) (fun v38 _ => stg_mem [0, 1, 2, 3, 4, 5, 6, 7, 8, 10, 11, 12] 13 [13, 12, 11, 10, 9] [14] (fun v42 => [(14, 43, _)]) rfl rfl (prs_cons (pri rfl (p_move rfl)) (prs_cons (pri rfl (p_move rfl)) (prs_cons (pri rfl (p_nilCheck rfl)) (prs_cons (pri rfl (p_field0 fo76_7 rfl)) (prs_cons (pri rfl (p_load1 t27 rfl rfl (g_row1 (k := 14) rfl rfl))) (prs_cons (pri rfl (p_move rfl)) (prs_cons (pri rfl (p_move rfl)) (prs_cons (pri rfl (p_idx_sl (j := i) Tryz.underlying58 t9 rfl rfl (hs_own (k := 16) rfl) rfl hiN)) (prs_cons (pri rfl (p_load1 t9 rfl rfl (g_el' (hs_own (k := 16) rfl) (by intro _; rfl) hnm (by rfl)))) (prs_cons (pri rfl (p_move rfl)) (prs_cons (pri rfl (p_move rfl)) (prs_cons (pri rfl (p_slice_hi (j := jn) Tryz.underlying58 t9 rfl rfl (hs_own (k := 15) rfl) hjn hjl)) prs_nil)))))))))))) rfl rfl rfl rfl rfl rfl rfl rfl rfl rfl rfl (fun _ _ => rfl) rfl (ms_appendG 38 Tryz.underlying58 t9 rfl (by decide) (fun _ => rfl) (fun _ => rfl) rfl rfl rfl own_id (SlS.hi (SlS.of (hs_own (k := 15) rfl)) hjl) (by simp only [List.length_nil, List.length_take]; omega) (by unfold maxLen; simp only [List.length_nil, List.length_take]; omega)) (fun v42 _ => stg_mem [14, 0, 1, 2, 3, 4, 5, 6, 7, 8] 15 [15, 14, 13, 12, 11, 10, 9, 8, 7, 6, 5] [] (fun v44 => []) rfl rfl (prs_cons (pri rfl (p_build (parts := [(0, .tmp 37), (1, .tmp 42)]) t63 pl63 rfl rfl)) (prs_cons (pri rfl (p_move rfl)) (prs_cons (pri rfl (p_move rfl)) (prs_cons (pri rfl (p_nilCheck rfl)) (prs_cons (pri rfl (p_field0 fo76_7 rfl)) (prs_cons (pri rfl (p_load1 t27 rfl rfl (g_row1 (k := 14) rfl rfl))) (prs_cons (pri rfl (p_move rfl)) (prs_cons (pri rfl (p_move rfl)) (prs_cons (pri rfl (p_idx_sl (j := i) Tryz.underlying58 t9 rfl rfl (hs_own (k := 16) rfl) rfl hiN)) (prs_cons (pri rfl (p_load1 t9 rfl rfl (g_el' (hs_own (k := 16) rfl) (by intro _; rfl) hnm (by rfl)))) prs_nil)))))))))) rfl rfl rfl rfl rfl rfl rfl rfl rfl rfl rfl (fun _ _ => rfl) rfl (ms_bslice1 eTf (tfHd nm v42 (pNames.take jn)) Tryz.underlying27 t63 rfl (by decide) (by decide) rfl rfl rfl) (fun v44 _ => stg_mem [0, 1, 2, 3, 4] 16 [16, 15, 14, 13, 12, 11, 10, 9, 8, 7, 6, 5, 4, 3, 2, 1] [17, 18] (fun v45 => [(17, 46, _), (18, 47, _)]) rfl rfl (prs_cons (pri rfl (p_move rfl)) (prs_cons (pri rfl (p_move rfl)) (prs_cons (pri rfl (p_nilCheck rfl)) (prs_cons (pri rfl (p_field0 fo76_7 rfl)) (prs_cons (pri rfl (p_load1 t27 rfl rfl (g_row1 (k := 14) rfl rfl))) prs_nil))))) rfl rfl rfl rfl rfl rfl rfl rfl rfl rfl rfl (fun _ _ => rfl) rfl (ms_append 60 Tryz.underlying27 t63 rfl (by decide) (fun _ => rfl) (fun _ => rfl) rfl rfl rfl (hs_own (k := 44) rfl) (by simp only [List.length_singleton]; omega) (by unfold maxLen; simp only [List.length_singleton]; omega)) (fun v45 _ => stg_mem0 [17, 18, 0] 19 [19, 18, 17, 16, 15, 14, 13, 12, 11, 10, 9, 8, 7, 6, 5, 4, 3, 2, 1, 0] [] (fun _ => []) rfl rfl (prs_cons (pri rfl (p_nilCheck rfl)) (prs_cons (pri rfl (p_field0 fo76_7 rfl)) (prs_cons (pri rfl (p_move rfl)) prs_nil))) rfl rfl rfl rfl rfl rfl rfl rfl rfl (fun _ _ => rfl) rfl (ms_store_row (k := 14) t27 rfl rfl rfl rfl rfl rfl rfl rfl) (fun _ _ => stg_end [] rfl rfl prs_nil rfl rfl rfl ?_))))))
   refine r_region ?_
   refine r_p (p_move rfl) rfl ?_
   refine r_p (p_bin rfl rfl (b_add (by first | exact w_i64 (by omega) (by omega) | rfl))) rfl ?_
   refine r_p (p_assign rfl) rfl ?_
   refine r_nil ?_
   refine r_collect 40 [40, 38] (C := fsA (F ++ [tfHd nm v42 (pNames.take jn)])) rfl fs_add ?_
   refine r_here ⟨i + 1, v45, F ++ [tfHd nm v42 (pNames.take jn)], sb⟩ ⟨⟨by dsimp only; omega, hds_next n2 hnm hy hjn, fun f hf => by
     rcases List.mem_append.1 hf with hf | hf
     ·exact n3 f hf
     ·rw [List.mem_singleton.1 hf]; exact ⟨rfl, rfl⟩⟩, by dsimp only; omega⟩ rfl rfl rfl
 ·(try simp only [decide_eq_true_eq, decide_eq_false_iff_not, Bool.and_eq_true, Bool.or_eq_true, Bool.and_eq_false_iff, Bool.or_eq_false_iff, Bool.not_eq_true, Bool.not_eq_false, Bool.not_eq_true', Bool.not_eq_false', Bool.not_not, bne_iff_ne, beq_iff_eq] at h1)
  have hie : i = gMany l := by omega
  have hH : gHds l = (F.map tfH, s) := by rw [← n2, hie]; rfl
  have hFh : (gHds l).1 = F.map fun f => (f.name, f.ps) := by rw [hH]
  have hs0 : (gHds l).2 = s := by rw [hH]
  have hps : ∀ f ∈ F, f.ps.length ≤ 100 := fun f hf => by
   have h := hds_ok l (gN l 4 gs0).2 i (tfH f) (by rw [n2]; exact List.mem_map_of_mem hf)
   have := h.2.1
   show (tfH f).2.length ≤ 100
   omega
  refine r_exit ?_
  refine r_seq ?_
  refine r_region ?_
  refine r_p (p_build (parts := []) t29 pl29 rfl rfl) rfl ?_
  refine r_alloc t29 rfl rfl fun b9 => ?_
  refine r_store_all (k := 9) t29 rfl rfl rfl rfl rfl rfl ?_
  refine r_nil ?_
  refine r_seq ?_
  refine r_seq ?_
  refine r_region ?_
  refine r_p (p_assign rfl) rfl ?_
  refine r_nil ?_
  refine r_block ?_
  refine r_collect 43 [60, 40] (C := tgA vf F []) rfl tg_of ?_
  refine r_nilown 60 (α := Tf) (S := 63) (s := 3) (enc := eTf) ?_
  refine r_loop (X := Xbo) (fun x => x.i ≤ gMany l ∧ GBr l (gHds l).1 (gHds l).2 x.i (x.out.map erF) x.s ∧ x.out.length = x.i) (fun x => [(2, .pointer (some ⟨b2, 0, none⟩)), (3, .pointer (some ⟨b14, 0, none⟩)), (6, .int .i64 (gMany l : Int)), (9, .pointer (some ⟨b9, 0, none⟩)), (10, .int .i64 (x.i : Int))]) (fun x => [(2, row b2 29 [sv nilS]), (14, row b14 76 (gRow vl (x.s) x.vn x.me vf)), (9, row b9 29 [sv x.vo]), (60, own 63 3 eTf (sv x.vo) x.out), (43, tgA vf F x.out)]) (fun x => [(0, sl 1 eI (sv vl) l)]) (fun x => gMany l - x.i) ⟨0, nilS, [], s, nilS, 0⟩ ⟨Nat.zero_le _, hs0 ▸ .zero, rfl⟩ rfl rfl rfl (fun x hx0 => ?_)
  obtain ⟨i, vo, out, s1, vn, me⟩ := x
  obtain ⟨m1, m2, m3⟩ := hx0
  dsimp only at m1 m2 m3 ⊢
  refine r_seq ?_
  refine r_seq ?_
  refine r_region ?_
  refine r_p (p_move rfl) rfl ?_
  refine r_p (p_move rfl) rfl ?_
  refine r_p (p_bin rfl rfl b_lt) rfl ?_
  refine r_nil ?_
  refine r_cond rfl (fun h3 => ?_) (fun h3 => ?_)
  ·(try simp only [decide_eq_true_eq, decide_eq_false_iff_not, Bool.and_eq_true, Bool.or_eq_true, Bool.and_eq_false_iff, Bool.or_eq_false_iff, Bool.not_eq_true, Bool.not_eq_false, Bool.not_eq_true', Bool.not_eq_false', Bool.not_not, bne_iff_ne, beq_iff_eq] at h3)
   have hi3 : i < gMany l := by omega
   have hiF : i < F.length := by omega
   obtain ⟨f, hfi⟩ : ∃ f, F[i]? = some f := ⟨_, List.getElem?_eq_getElem hiF⟩
   have hfm := List.mem_of_getElem? hfi
   have hfp := hps f hfm
   have hsi : GInv { s1 with left := 8, nodes := 150, vars := 0, names := f.ps } := ⟨Int.le_refl _, by show (0 : Int) ≤ 8; decide, by show (f.ps.length : Int) ≤ 100 + 0; omega, by show (8 : Int) ≤ 1000; decide⟩
   refine r_skip ?_
   refine r_seq ?_
   refine r_block ?_
   refine r_seq ?_
   refine r_region ?_
   refine r_p (p_move rfl) rfl ?_
   refine r_p (p_move rfl) rfl ?_
   refine r_p (p_nilCheck rfl) rfl ?_
   refine r_p (p_field0 fo76_6 rfl) rfl ?_
   refine r_store_row (k := 14) t3 rfl rfl rfl rfl rfl rfl rfl rfl ?_
   refine r_nil ?_
   refine r_seq ?_
   refine r_region ?_
   refine r_p (p_move rfl) rfl ?_
   refine r_p (p_nilCheck rfl) rfl ?_
   refine r_p (p_field0 fo76_2 rfl) rfl ?_
   refine r_store_row (k := 14) t3 rfl rfl rfl rfl rfl rfl rfl rfl ?_
   refine r_nil ?_
   refine r_seq ?_
   refine r_region ?_
   refine r_p (p_move rfl) rfl ?_
   refine r_p (p_nilCheck rfl) rfl ?_
   refine r_p (p_field0 fo76_3 rfl) rfl ?_
   refine r_store_row (k := 14) t3 rfl rfl rfl rfl rfl rfl rfl rfl ?_
   refine r_nil ?_
   refine r_seq ?_
   refine r_region ?_
   refine r_p (p_move rfl) rfl ?_
   refine r_p (p_nilCheck rfl) rfl ?_
   refine r_p (p_field0 fo76_5 rfl) rfl ?_
   refine r_store_row (k := 14) t3 rfl rfl rfl rfl rfl rfl rfl rfl ?_
   refine r_nil ?_
   refine r_seq ?_
   refine r_region ?_
   refine r_p (p_move rfl) rfl ?_
   refine r_bslice0 eS Tryz.underlying58 t9 rfl fun v68 => ?_
   refine r_p (p_move rfl) rfl ?_
   refine r_p (p_nilCheck rfl) rfl ?_
   refine r_p (p_field0 fo76_7 rfl) rfl ?_
   refine r_p (p_load1 t27 rfl rfl (g_row1 (k := 14) rfl rfl)) rfl ?_
   refine r_p (p_move rfl) rfl ?_
   refine r_p (p_idx_slS (j := i) Tryz.underlying27 t63 rfl rfl (SlS.tg (k := 43) rfl) rfl hiF) rfl ?_
   refine r_p (p_field fo63_1 rfl) rfl ?_
   refine r_p (p_load1 t58 rfl rfl (g_elpS (SlS.tg (k := 43) rfl) (by intro _; rfl) hfi rfl)) rfl ?_
   refine r_appendG 68 Tryz.underlying58 t9 rfl (by decide) (fun _ => rfl) (fun _ => rfl) rfl rfl rfl own_id (SlS.tgp (k := 43) rfl hfm) (by simp only [List.length_nil]; omega) (by unfold maxLen; simp only [List.length_nil]; omega) rfl fun v77 => ?_
   refine r_p (p_nilCheck rfl) rfl ?_
   refine r_p (p_field0 fo76_4 rfl) rfl ?_
   refine r_store_row (k := 14) t58 rfl rfl rfl rfl rfl rfl rfl rfl ?_
   refine r_nil ?_
   refine r_seq ?_
   refine r_region ?_
   refine r_p (p_move rfl) rfl ?_
   refine r_p (p_nilCheck rfl) rfl ?_
   refine r_p (p_field0 fo76_7 rfl) rfl ?_
   refine r_p (p_load1 t27 rfl rfl (g_row1 (k := 14) rfl rfl)) rfl ?_
   refine r_p (p_move rfl) rfl ?_
   refine r_p (p_idx_slS (j := i) Tryz.underlying27 t63 rfl rfl (SlS.tg (k := 43) rfl) rfl hiF) rfl ?_
   refine r_p (p_loadA t63 rfl rfl rfl (g_elS' (SlS.tg (k := 43) rfl) (by intro _; rfl) hfi (by rfl))) rfl ?_
   refine r_alloc t63 rfl rfl fun b11 => ?_
   refine r_store_all (k := 11) t63 rfl rfl rfl rfl rfl rfl ?_
   refine r_nil ?_
   refine r_seq ?_
   refine r_region ?_
   refine r_p (p_move rfl) rfl ?_
   refine r_callN (xs := [.tmp 87, .const (.int .i64 1)]) (gst_tg (e := ⟨b14, vl, v77, vf, ⟨l, i, (gHds l).1⟩, F⟩) ⟨hl, hlo, hFh, by dsimp only; omega, by dsimp only; omega, hps⟩ out { s1 with left := 8, nodes := 150, vars := 0, names := f.ps } v77 hsi) cb32 [14, 68] [(false, 0), (true, 43)] [14, 70, 61, 62] rfl rfl rfl rfl rfl rfl rfl rfl (fun _ _ => rfl) (fun _ _ _ => rfl) rfl (fun ⟨vb, body, s2, vn2⟩ hbd => ?_)
   dsimp only at hbd ⊢
   refine r_p (p_field0 fo63_2 rfl) rfl ?_
   refine r_store_row (k := 11) t51 rfl rfl rfl rfl rfl rfl rfl rfl ?_
   refine r_nil ?_
   refine r_region ?_
   refine r_p (p_field0 fo29_0 rfl) rfl ?_
   refine r_p (p_load1 t27 rfl rfl (g_row1 (k := 9) rfl rfl)) rfl ?_
   refine r_p (p_loadA t63 rfl rfl rfl (g_all (k := 11) rfl)) rfl ?_
   refine r_bslice1 eTf (⟨f.name, f.vp, f.ps, vb, body⟩ : Tf) Tryz.underlying27 t63 rfl (by decide) (by decide) rfl rfl rfl rfl fun v93 => ?_
   refine r_append 60 Tryz.underlying27 t63 rfl (by decide) (fun _ => rfl) (fun _ => rfl) rfl rfl rfl (hs_own (k := 93) rfl) (by simp only [List.length_singleton]; omega) (by unfold maxLen; simp only [List.length_singleton]; omega) rfl fun v94 => ?_
   refine r_p (p_field0 fo29_0 rfl) rfl ?_
   refine r_store_row (k := 9) t27 rfl rfl rfl rfl rfl rfl rfl rfl ?_
   refine r_nil ?_
   refine r_region ?_
   refine r_p (p_move rfl) rfl ?_
   refine r_p (p_bin rfl rfl (b_add (by first | exact w_i64 (by omega) (by omega) | rfl))) rfl ?_
   refine r_p (p_assign rfl) rfl ?_
   refine r_nil ?_
   refine r_collect 43 [43, 61, 62] (C := tgA vf F (out ++ [⟨f.name, f.vp, f.ps, vb, body⟩])) rfl (tg_add hfm) ?_
   refine r_here ⟨i + 1, v94, out ++ [⟨f.name, f.vp, f.ps, vb, body⟩], s2, vn2, i⟩ ⟨⟨by dsimp only; omega, by dsimp only; rw [List.map_append]; exact .step (f := (f.name, f.ps)) m2 (by rw [hFh, List.getElem?_map, hfi]; rfl) hbd.1, by dsimp only; rw [List.length_append, m3]; rfl⟩, by dsimp only; omega⟩ rfl rfl rfl
  ·(try simp only [decide_eq_true_eq, decide_eq_false_iff_not, Bool.and_eq_true, Bool.or_eq_true, Bool.and_eq_false_iff, Bool.or_eq_false_iff, Bool.not_eq_true, Bool.not_eq_false, Bool.not_eq_true', Bool.not_eq_false', Bool.not_not, bne_iff_ne, beq_iff_eq] at h3)
   have hme : i = gMany l := by omega
   refine r_exit ?_
   refine r_seq ?_
   refine r_region ?_
   refine r_p (p_loadA t29 rfl rfl rfl (g_all (k := 9) rfl)) rfl ?_
   refine r_store_all (k := 2) t29 rfl rfl rfl rfl rfl rfl ?_
   refine r_nil ?_
   refine r_cret ?_
   refine r_collect 63 [60, 43] (C := tfsA vo out) rfl tfs_of ?_
   refine r_ret (vo, out) ⟨s1, hme ▸ m2⟩ rfl (rs1 (rv_cellA t29 rfl rfl rfl (g_all (k := 2) rfl))) rfl [63] [] rfl rfl rfl

end Go.Proofs.YtdcbbkpdlcojfaaGreat
namespace Go.Proofs.YtdcbbkpdlcojfaaGreat
set_option linter.unusedSimpArgs false
set_option linter.unusedVariables false
open Go.RowKit

set_option maxHeartbeats 8000000 in
set_option maxRecDepth 100000 in
theorem runs_law (x0 : SV) (s : List Int) (b0 : ∀ n ∈ s, okI n) (x1 : SV) (u : List Int) (b1 : ∀ n ∈ u, oW n) (a : Int) (ha : 0 ≤ a ∧ a < 65536) :
  Spec Tryz.prog 3 [sv x0, sv x1, .int .u16 a] [] [sl 1 eI (sv x0) s, sl 1 eU (sv x1) u] (X := Unit) (fun _ => True) (fun _ => .bool true) (fun _ => []) (fun _ => []) := by
 refine r_enter Tryz.func3 rfl Tryz.ntmps3 rfl fun w0 M H => ?_
 have hiu : ∀ x ∈ u.take (min u.length 20), oW x := fun x hx => b1 x (List.mem_of_mem_take hx)
 have hul : (u.take (min u.length 20)).length ≤ 1000000 := (by rw [List.length_take]; omega)
 refine r_hi 0 22 (min s.length 120) rfl (by omega) ?_
 refine r_hi 1 28 (min u.length 20) rfl (by omega) ?_
 refine r_seq ?_
 refine r_region ?_
 refine r_p (p_assign rfl) rfl ?_
 refine r_nil ?_
 refine r_seq ?_
 refine r_region ?_
 refine r_callN (xs := []) sanity_spec cb8 [] [] [] rfl rfl rfl rfl rfl rfl rfl rfl (fun _ _ => rfl) (fun _ _ _ => rfl) rfl (fun _ _ => ?_)
 refine r_p (p_assign rfl) rfl ?_
 refine r_nil ?_
 refine r_seq ?_
 refine r_draw [9, 10, 11, 12, 13, 14, 15, 16, 17, 18, 19, 20, 21, 22, 23, 24, 25, 6] _ rfl (stg_memg (V := [(0, 9, _), (1, 10, _), (2, 11, _), (3, 12, _), (4, 13, _), (5, 14, _), (6, 15, _), (8, 17, _), (9, 18, _), (10, 19, _), (11, 20, _), (12, 21, _), (13, 22, _)]) [0, 1, 2, 3, 4, 5, 6, 8, 9, 10, 11, 12, 13] 7 [7, 6, 5, 4, 3, 2, 1, 0] [] (fun v => []) rfl rfl (prs_cons (pri rfl (p_move rfl)) (prs_cons (pri rfl (p_move rfl)) (prs_cons (prig_y rfl rfl rfl rfl (p_move rfl)) (prs_cons (prig_y rfl rfl rfl rfl (p_move rfl)) (prs_cons (prig_y rfl rfl rfl rfl (p_len_sl Tryz.underlying22 rfl (hs_sl (k := 0) rfl))) (prs_cons (prig_y rfl rfl rfl rfl (p_min rfl rfl rfl)) (prs_cons (prig_y rfl rfl rfl rfl (p_slice_hi (j := (min s.length 120)) Tryz.underlying22 t3 rfl rfl (hs_sl (k := 0) rfl) (by omega) (by omega))) (prs_cons (prig_y rfl rfl rfl rfl (p_move rfl)) (prs_cons (prig_y rfl rfl rfl rfl (p_move rfl)) (prs_cons (prig_y rfl rfl rfl rfl (p_len_sl Tryz.underlying23 rfl (hs_sl (k := 1) rfl))) (prs_cons (prig_y rfl rfl rfl rfl (p_min rfl rfl rfl)) (prs_cons (prig_y rfl rfl rfl rfl (p_slice_hi (j := (min u.length 20)) Tryz.underlying23 t36 rfl rfl (hs_sl (k := 1) rfl) (by omega) (by omega))) (prs_cons (prig_y rfl rfl rfl rfl (p_move rfl)) prs_nil))))))))))))) rfl rfl rfl rfl rfl rfl rfl rfl rfl rfl rfl rfl (fun _ _ => rfl) rfl (ms_callN (xs := [.tmp 15]) (made_spec (hiS x0 (min s.length 120)) (s.take (min s.length 120)) (by rw [List.length_take]; omega) (fun x hx => b0 x (List.mem_of_mem_take hx))) cb10 [] [(false, 22)] [90] rfl rfl rfl rfl rfl rfl rfl rfl (fun _ _ => rfl) (fun _ _ _ => rfl)) (fun v hm => stg_memg [8, 9, 10, 11, 12, 13] 14 [14, 13, 7, 6, 5, 4, 3, 2, 1, 0] [] (fun _ => []) rfl rfl (prs_cons (prig_y rfl rfl rfl rfl (p_move rfl)) (prs_cons (prig_y rfl rfl rfl rfl (p_move rfl)) (prs_cons (prig_y rfl rfl rfl rfl (p_len_sl Tryz.underlying23 rfl (hs_sl (k := 1) rfl))) (prs_cons (prig_y rfl rfl rfl rfl (p_min rfl rfl rfl)) (prs_cons (prig_y rfl rfl rfl rfl (p_slice_hi (j := (min u.length 20)) Tryz.underlying23 t36 rfl rfl (hs_sl (k := 1) rfl) (by omega) (by omega))) (prs_cons (prig_y rfl rfl rfl rfl (p_move rfl)) prs_nil)))))) rfl rfl rfl rfl rfl rfl rfl rfl rfl rfl rfl rfl (fun _ _ => rfl) rfl (ms_callN (xs := [.tmp 22]) (units_spec a ha) cb11 [] [] [] rfl rfl rfl rfl rfl rfl rfl rfl (fun _ _ => rfl) (fun _ _ _ => rfl)) (fun _ _ => stg_memg [8, 9, 10, 11, 12] 15 [15, 14, 13, 12, 11, 10, 9, 8, 7, 6, 5, 4, 3, 2, 1, 0] [16, 17] (fun _ => [(16, 25, _), (17, 6, _)]) rfl rfl (prs_cons (prig_y rfl rfl rfl rfl (p_move rfl)) (prs_cons (prig_y rfl rfl rfl rfl (p_move rfl)) (prs_cons (prig_y rfl rfl rfl rfl (p_len_sl Tryz.underlying23 rfl (hs_sl (k := 1) rfl))) (prs_cons (prig_y rfl rfl rfl rfl (p_min rfl rfl rfl)) (prs_cons (prig_y rfl rfl rfl rfl (p_slice_hi (j := (min u.length 20)) Tryz.underlying23 t36 rfl rfl (hs_sl (k := 1) rfl) (by omega) (by omega))) prs_nil))))) rfl rfl rfl rfl rfl rfl rfl rfl rfl rfl rfl rfl (fun _ _ => rfl) rfl (ms_callN (xs := [.tmp 16, .tmp 21, .tmp 23]) (agrees_all v.1 (hiS x1 (min u.length 20)) v.2 (u.take (min u.length 20)) (a % 4004 - 3) (gMr_gp hm) hiu hul (by omega)) cb9 [] [(true, 90), (false, 28)] [] rfl rfl rfl rfl rfl rfl rfl rfl (fun _ _ => rfl) (fun _ _ _ => rfl)) (fun _ _ => stg_end [16, 17] rfl rfl (prs_cons (pri rfl (p_pick rfl rfl rfl (pick_t rfl))) (prs_cons (pri rfl (p_assign rfl)) prs_nil)) rfl rfl rfl ?_))))
 refine r_cret ?_
 refine r_ret () trivial rfl (rs1 (rv_tmp rfl)) rfl [] [] rfl rfl rfl

end Go.Proofs.YtdcbbkpdlcojfaaGreat
