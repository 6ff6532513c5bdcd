/-
  Part of the proof: the texts C4, C5, C6, V1, V2, V4. Conditions are with the theorems.
-/
import Derived.Test.YtdcbbkpdlcojfaaGreatP4a
import Derived.Test.YtdcbbkpdlcojfaaGreatP4b
import Derived.Test.YtdcbbkpdlcojfaaGreatP4c
import Derived.Test.YtdcbbkpdlcojfaaGreatP4d
import Derived.Test.YtdcbbkpdlcojfaaGreatP4e
namespace Go.Proofs.YtdcbbkpdlcojfaaGreat
set_option linter.unusedSimpArgs false
set_option linter.unusedVariables false
open Go.RowKit
theorem er_whi {x : ByteArray} {v0 v1 vb v2 v3 : SV} {n : Int} {a : List Ty} : erYs [wVar x v0 n, wLoop x v1 vb (a ++ [wDown x v3 v2])] = [.mk 1 x [pNum n] [] [], .mk 5 oNil [pName x] (erYs a ++ [pDown x]) []] := by
 simp only [erYs, erY, erXs, erX, erYs_app, pNum, pName, pDown]
/-- The state of the loop over statements. -/
structure Xg where
 i : Nat
 vo : SV
 out : List Ty
 s : Gs
 vn : SV
/-- The contract of a block. -/
def HGY (e : Ge) (lev : Nat) : Prop := ∀ (s : Gs) (vn : SV), GInv s → Spec Tryz.prog 32 [.pointer (some ⟨e.g, 0, none⟩), .int .i64 (4 - (lev : Int))] [row e.g 76 (gRow e.vl s vn e.c.me e.vf), own 9 1 eS (sv vn) s.names] [sl 1 eI (sv e.vl) e.c.l, tfsA e.vf e.F] (X := SV × List Ty × Gs × SV) (fun x => GYr e.c lev s (erYs x.2.1) x.2.2.1 ∧ x.2.1.length ≤ 10) (fun x => sv x.1)
 (fun x => [row e.g 76 (gRow e.vl x.2.2.1 x.2.2.2 e.c.me e.vf), own 9 1 eS (sv x.2.2.2) x.2.2.1.names, own 53 5 eTy (sv x.1) x.2.1, ysA x.2.1]) (fun _ => [])
theorem fresh_at {v : Int} (h0 : 0 ≤ v) (h8 : v < 8) : ∃ x, freshL[v.toNat]? = some x ∧ v.toNat < freshL.length ∧ v = (v.toNat : Int) := by
 have h : v.toNat < freshL.length := by show _ < 8; omega
 exact ⟨_, List.getElem?_eq_getElem h, h, by omega⟩
set_option maxHeartbeats 32000000 in
set_option maxRecDepth 100000 in
theorem gstmts_step (e : Ge) (he : Gfine e) (lev : Nat) (hlv : lev ≤ 3) (ih : ∀ k, lev = k + 1 → HGY e k) (s0 : Gs) (vn0 : SV) (hi0 : GInv s0) :
  Spec Tryz.prog 32 [.pointer (some ⟨e.g, 0, none⟩), .int .i64 (4 - (lev : Int))] [row e.g 76 (gRow e.vl (s0) vn0 e.c.me e.vf), own 9 1 eS (sv vn0) s0.names] [sl 1 eI (sv e.vl) e.c.l, tfsA e.vf e.F] (X := SV × List Ty × Gs × SV) (fun x => GYr e.c lev s0 (erYs x.2.1) x.2.2.1 ∧ x.2.1.length ≤ 10) (fun x => sv x.1) (fun x => [row e.g 76 (gRow e.vl (x.2.2.1) x.2.2.2 e.c.me e.vf), own 9 1 eS (sv x.2.2.2) x.2.2.1.names, own 53 5 eTy (sv x.1) x.2.1, ysA x.2.1]) (fun _ => []) := by
 refine r_enter Tryz.func32 rfl Tryz.ntmps32 rfl fun w0 M H => ?_
 refine r_more 1 2 rfl (fun _ G h _ => ⟨G, h, fun _ hb => hb⟩) ?_
 refine r_more 2 3 rfl tfs_sl ?_
 have hfl : e.c.fs.length = e.F.length := by rw [he.fs, List.length_map]
 have hflb := he.fl
 have hmeb := he.me
 obtain ⟨j0, sm, hj0⟩ : ∃ j0 sm, gN e.c.l 5 s0 = (j0, sm) := ⟨_, _, rfl⟩
 have hjb0 := gN_bd (by decide) hj0
 have him : GInv sm := hi0.same (gN_st2 hj0)
 obtain ⟨many, hmany⟩ : ∃ many : Nat, (1 : Int) + j0 = (many : Int) := ⟨(1 + j0).toNat, by omega⟩
 refine r_seq (r_region (r_p (p_assign rfl) rfl (r_nil (r_seq (r_region (r_p (p_assign rfl) rfl (r_nil (r_seq (r_region (r_p (p_move rfl) rfl ?_))))))))))
 refine r_callN (xs := [.tmp 19, .const (.int .i64 5)]) (gnext_spec e.g e.vl vn0 e.vf e.c he.hl he.hlo 5 (by decide) s0) cb31 [0] [(false, 0)] [0] rfl rfl rfl rfl rfl rfl rfl rfl (fun _ _ => rfl) (fun _ _ _ => rfl) rfl (fun _ _ => ?_)
 rw [hj0]
 dsimp only
 refine r_p (p_bin rfl rfl (b_add (by first | exact w_i64 (by omega) (by omega) | rfl))) rfl ?_
 rw [hmany]
 refine r_p (p_assign rfl) rfl (r_nil (r_seq (r_seq (r_region (r_p (p_assign rfl) rfl (r_nil (r_block ?_)))))))
 refine r_nilown 60 (α := Ty) (S := 53) (s := 5) (enc := eTy) ?_
 refine r_collect 40 [] (L := []) (C := ysA []) rfl (fun _ _ _ => trivial) ?_
 refine r_loop (X := Xg) (fun x => x.i ≤ many ∧ GInv x.s ∧ x.out.length ≤ 2 * x.i ∧ ∀ r s2, GLr e.c lev (many - x.i) x.s r s2 → GLr e.c lev many sm (erYs x.out ++ r) s2) (fun x => [(0, .pointer (some ⟨e.g, 0, none⟩)), (1, .int .i64 (4 - (lev : Int))), (5, sv x.vo), (6, .int .i64 (many : Int)), (7, .int .i64 (x.i : Int))]) (fun x => [(0, row e.g 76 (gRow e.vl (x.s) x.vn e.c.me e.vf)), (1, own 9 1 eS (sv x.vn) x.s.names), (60, own 53 5 eTy (sv x.vo) x.out), (40, ysA x.out)]) (fun x => [(0, sl 1 eI (sv e.vl) e.c.l), (2, tfsA e.vf e.F), (3, sl 3 eTf (sv e.vf) e.F)]) (fun x => many - x.i) ⟨0, nilS, [], sm, vn0⟩ ⟨Nat.zero_le _, him, Nat.le_refl _, fun r s2 h => h⟩ rfl (by dsimp only; rw [show sm.names = s0.names from (gN_st2 hj0).1]; rfl) rfl (fun x hx0 => ?_)
 obtain ⟨i, vo, out, s, vn⟩ := x
 obtain ⟨n1, n2, n3, n4⟩ := hx0
 dsimp only at n1 n2 n3 n4 ⊢
 refine r_seq (r_seq (r_region (r_p (p_move rfl) rfl (r_p (p_move rfl) rfl ?_))))
 refine r_p (p_bin rfl rfl b_lt) rfl ?_
 refine r_p (p_move rfl) rfl ?_
 refine r_gp [] rfl rfl trivial (fun hg1 => p_move rfl) rfl ?_
 refine r_gp [(26, _)] rfl rfl ⟨rfl, trivial⟩ (fun hg2 => p_nilCheck rfl) rfl ?_
 refine r_gp [(26, _), (27, _)] rfl rfl ⟨rfl, rfl, trivial⟩ (fun hg3 => p_field0 fo76_2 rfl) rfl ?_
 refine r_gp [(26, _), (27, _), (28, _)] rfl rfl ⟨rfl, rfl, rfl, trivial⟩ (fun hg4 => p_load1 t3 rfl rfl (g_row1 (k := 0) rfl rfl)) rfl ?_
 refine r_gp [(26, _), (27, _), (28, _), (29, _)] rfl rfl ⟨rfl, rfl, rfl, rfl, trivial⟩ (fun hg5 => p_bin rfl rfl b_gt) rfl ?_
 refine r_p (p_pick rfl rfl rfl (by first | exact pick_and | exact pick_or |  rfl)) rfl ?_
 refine r_nil ?_
 refine r_cond rfl (fun h6 => ?_) (fun h6 => ?_)
 ·(try simp only [decide_eq_true_eq, decide_eq_false_iff_not, Bool.and_eq_true, Bool.or_eq_true, Bool.and_eq_false_iff, Bool.or_eq_false_iff, Bool.not_eq_true, Bool.not_eq_false, Bool.not_eq_true', Bool.not_eq_false', Bool.not_not, bne_iff_ne, beq_iff_eq] at h6)
  have hi2 : i < many := by omega
  have hleft : 0 < s.left := h6.2
  obtain ⟨k, sa, hk⟩ : ∃ a b, gN e.c.l 12 { s with left := s.left - 1 } = (a, b) := ⟨_, _, rfl⟩
  have hkb := gN_bd (by decide) hk
  have hna : sa.names = s.names := (gN_st2 hk).1
  have hia : GInv sa := GInv.same (s := { s with left := s.left - 1 }) ⟨n2.v0, n2.v8, n2.nm, by show s.left - 1 ≤ 1000; have := n2.lf; omega⟩ (gN_st2 hk)
  have hin := hia.n
  have hv0 := hia.v0
  have hv8 := hia.v8
  have hinm : sa.names.length ≤ 1000 := hin
  rw [← hna]
  refine r_skip (r_seq (r_block (r_seq (r_region (r_p (p_move rfl) rfl (r_p (p_nilCheck rfl) rfl ?_))))))
  refine r_p (p_field0 fo76_2 rfl) rfl ?_
  refine r_p (p_load1 t3 rfl rfl (g_row1 (k := 0) rfl rfl)) rfl ?_
  refine r_p (p_bin rfl rfl (b_sub (by exact w_i64 (by omega) (by have := n2.lf; omega)))) rfl ?_
  refine r_p (p_nilCheck rfl) rfl ?_
  refine r_p (p_field0 fo76_2 rfl) rfl ?_
  refine r_store_row (k := 0) t3 rfl rfl rfl rfl rfl rfl rfl rfl ?_
  refine r_nil (r_seq (r_region (r_p (p_move rfl) rfl ?_)))
  refine r_callN (xs := [.tmp 41, .const (.int .i64 12)]) (gnext_spec e.g e.vl vn e.vf e.c he.hl he.hlo (12) (by decide) ({ s with left := s.left - 1 })) cb31 [0] [(false, 0)] [0] rfl rfl rfl rfl rfl rfl rfl rfl (fun _ _ => rfl) (fun _ _ _ => rfl) rfl (fun _ _ => ?_)
  rw [hk]
  dsimp only
  refine r_p (p_assign rfl) rfl (r_nil (r_seq (r_region ?_)))
  refine r_bslice eS freshL (parts := [(0, .const (.string (ByteArray.mk #[97]))), (1, .const (.string (ByteArray.mk #[98]))), (2, .const (.string (ByteArray.mk #[99]))), (3, .const (.string (ByteArray.mk #[100]))), (4, .const (.string (ByteArray.mk #[101]))), (5, .const (.string (ByteArray.mk #[120, 49]))), (6, .const (.string (ByteArray.mk #[121, 50]))), (7, .const (.string (ByteArray.mk #[108, 111, 111, 112])))]) Tryz.underlying58 t9 rfl (by decide) (by intro _; rfl) rfl (by decide) (by decide) rfl rfl rfl rfl fun v43 => ?_
  refine r_p (p_assign rfl) rfl (r_nil (r_block (r_seq (r_region (r_p (p_move rfl) rfl ?_)))))
  refine r_p (p_bin rfl rfl b_lt) rfl ?_
  refine r_p (p_move rfl) rfl ?_
  refine r_gp [] rfl rfl trivial (fun hg7 => p_move rfl) rfl ?_
  refine r_gp [(55, _)] rfl rfl ⟨rfl, trivial⟩ (fun hg8 => p_nilCheck rfl) rfl ?_
  refine r_gp [(55, _), (56, _)] rfl rfl ⟨rfl, rfl, trivial⟩ (fun hg9 => p_field0 fo76_5 rfl) rfl ?_
  refine r_gp [(55, _), (56, _), (57, _)] rfl rfl ⟨rfl, rfl, rfl, trivial⟩ (fun hg10 => p_load1 t3 rfl rfl (g_row1 (k := 0) rfl rfl)) rfl ?_
  refine r_gp [(55, _), (56, _), (57, _), (58, _)] rfl rfl ⟨rfl, rfl, rfl, rfl, trivial⟩ (fun hg11 => p_move rfl) rfl ?_
  refine r_gp [(55, _), (56, _), (57, _), (58, _), (59, _)] rfl rfl ⟨rfl, rfl, rfl, rfl, rfl, trivial⟩ (fun hg12 => p_len_sl Tryz.underlying58 rfl (hs_own (k := 43) rfl)) rfl ?_
  refine r_gp [(55, _), (56, _), (57, _), (58, _), (59, _), (60, _)] rfl rfl ⟨rfl, rfl, rfl, rfl, rfl, rfl, trivial⟩ (fun hg13 => p_bin rfl rfl b_lt) rfl ?_
  refine r_p (p_pick rfl rfl rfl (by first | exact pick_and | exact pick_or |  rfl)) rfl ?_
  refine r_p (p_assign rfl) rfl (r_nil ?_)
  refine r_cond rfl (fun h14 => ?_) (fun h14 => ?_)
  ·(try simp only [decide_eq_true_eq, decide_eq_false_iff_not, Bool.and_eq_true, Bool.or_eq_true, Bool.and_eq_false_iff, Bool.or_eq_false_iff, Bool.not_eq_true, Bool.not_eq_false, Bool.not_eq_true', Bool.not_eq_false', Bool.not_not, bne_iff_ne, beq_iff_eq] at h14)
   have h2 : k < 3 ∧ sa.vars < 8 := ⟨h14.1, h14.2⟩
   obtain ⟨nm, hnm, hnm1, hnm2⟩ := fresh_at hia.v0 h2.2
   refine r_seq (r_region (r_p (p_move rfl) rfl (r_p (p_move rfl) rfl (r_p (p_nilCheck rfl) rfl ?_))))
   refine r_p (p_field0 fo76_5 rfl) rfl ?_
   refine r_p (p_load1 t3 rfl rfl (g_row1 (k := 0) rfl rfl)) rfl ?_
   refine r_p (p_idx_sl (j := sa.vars.toNat) Tryz.underlying58 t9 rfl rfl (hs_own (k := 43) rfl) hnm2 hnm1) rfl ?_
   refine r_p (p_load1 t9 rfl rfl (g_el' (hs_own (k := 43) rfl) (by intro _; rfl) hnm (by rfl))) rfl ?_
   refine r_p (p_assign rfl) rfl (r_nil (r_seq (r_region (r_p (p_move rfl) rfl (r_p (p_nilCheck rfl) rfl ?_)))))
   refine r_p (p_field0 fo76_5 rfl) rfl ?_
   refine r_p (p_load1 t3 rfl rfl (g_row1 (k := 0) rfl rfl)) rfl ?_
   refine r_p (p_bin rfl rfl (b_add (by first | exact w_i64 (by omega) (by omega) | rfl))) rfl ?_
   refine r_p (p_nilCheck rfl) rfl ?_
   refine r_p (p_field0 fo76_5 rfl) rfl ?_
   refine r_store_row (k := 0) t3 rfl rfl rfl rfl rfl rfl rfl rfl ?_
   refine r_nil (r_seq (r_region (r_p (p_move rfl) rfl ?_)))
   refine r_callN (xs := [.tmp 77, .const (.int .i64 4)]) (gx_own he 3 (by decide) vn ({ sa with vars := sa.vars + 1 }) (by rw [show ({ sa with vars := sa.vars + 1 } : Gs).names = sa.names from rfl]; exact hin)) cb49 [0] [(false, 0), (true, 1), (false, 2)] [0, 78] rfl rfl rfl rfl rfl (by rw [show ({ sa with vars := sa.vars + 1 } : Gs).names = sa.names from rfl]; rfl) rfl rfl (fun _ _ => rfl) (fun _ _ _ => rfl) rfl (fun ⟨t1, s2⟩ ht1 => ?_)
   dsimp only at ht1 ⊢
   refine r_alloc t48 rfl rfl fun b11 => ?_
   refine r_store_all (k := 11) t48 rfl rfl rfl rfl rfl rfl ?_
   refine r_nil (r_seq (r_region (r_p (p_move rfl) rfl (r_p (p_move rfl) rfl ?_))))
   refine r_p (p_loadA t48 rfl rfl rfl (g_all (k := 11) rfl)) rfl ?_
   refine r_bslice1 eTx t1 Tryz.underlying46 t48 rfl (by decide) (by decide) rfl rfl rfl rfl fun v82 => ?_
   refine r_p (p_build (parts := [(0, .const (.int .i64 1)), (1, .tmp 80), (2, .tmp 82)]) t53 pl53 rfl rfl) rfl ?_
   refine r_bslice1 eTy (.mk 1 nm v82 [t1] nilS [] nilS []) Tryz.underlying51 t53 rfl (by decide) (by decide) rfl rfl rfl rfl fun v84 => ?_
   refine r_append 60 Tryz.underlying51 t53 rfl (by decide) (fun _ => rfl) (fun _ => rfl) rfl rfl rfl (hs_own (k := 84) rfl) (by simp only [List.length_append, List.length_cons, List.length_nil]; omega) (by unfold maxLen; simp only [List.length_append, List.length_cons, List.length_nil]; omega) rfl fun v85 => ?_
   refine r_p (p_assign rfl) rfl (r_nil (r_region (r_p (p_move rfl) rfl (r_p (p_move rfl) rfl (r_p (p_nilCheck rfl) rfl ?_)))))
   refine r_p (p_field0 fo76_4 rfl) rfl ?_
   refine r_p (p_load1 t58 rfl rfl (g_row1 (k := 0) rfl rfl)) rfl ?_
   refine r_p (p_move rfl) rfl ?_
   refine r_bslice1 eS nm Tryz.underlying58 t9 rfl (by decide) (by decide) rfl rfl rfl rfl fun v92 => ?_
   refine r_append 1 Tryz.underlying58 t9 rfl (by decide) (fun _ => rfl) (fun _ => rfl) rfl rfl rfl (hs_own (k := 92) rfl) (by have := hinm; simp only [List.length_singleton]; omega) (by unfold maxLen; have := hinm; simp only [List.length_singleton]; omega) rfl fun v93 => ?_
   refine r_p (p_nilCheck rfl) rfl ?_
   refine r_p (p_field0 fo76_4 rfl) rfl ?_
   refine r_store_row (k := 0) t58 rfl rfl rfl rfl rfl rfl rfl rfl ?_
   refine r_nil (r_region (r_p (p_move rfl) rfl ?_))
   refine r_p (p_bin rfl rfl (b_add (by first | exact w_i64 (by omega) (by omega) | rfl))) rfl ?_
   refine r_p (p_assign rfl) rfl (r_nil ?_)
   have hg1 : G1r e.c (lev) k sa (erYs [.mk 1 nm v82 [t1] nilS [] nilS []]) ({ s2 with names := s2.names ++ [nm] }) := .var h2.1 hnm h2.2 ht1
   have hkp := hg1.inv hia
   refine r_collect 40 [40, 82, 78] (C := ysA (out ++ [.mk 1 nm v82 [t1] nilS [] nilS []])) rfl st1_all ?_
   refine r_here ⟨i + 1, v85, out ++ [.mk 1 nm v82 [t1] nilS [] nilS []], { s2 with names := s2.names ++ [nm] }, v93⟩ ⟨⟨by dsimp only; omega, hkp.inv, by dsimp only; rw [List.length_append]; simp only [List.length_cons, List.length_nil]; omega, by dsimp only; rw [erYs_app]; exact gl_next hi2 hleft hk hg1 n4⟩, by dsimp only; omega⟩ rfl (by dsimp only; rw [show s2.names = sa.names from ht1.keep.1]; rfl) rfl
  ·(try simp only [decide_eq_true_eq, decide_eq_false_iff_not, Bool.and_eq_true, Bool.or_eq_true, Bool.and_eq_false_iff, Bool.or_eq_false_iff, Bool.not_eq_true, Bool.not_eq_false, Bool.not_eq_true', Bool.not_eq_false', Bool.not_not, bne_iff_ne, beq_iff_eq] at h14)
   have q2 : ¬ (k < 3 ∧ sa.vars < 8) := by rintro ⟨a, b⟩; rcases h14 with h | h; exact h a; exact h b
   refine r_seq (r_region (r_p (p_move rfl) rfl ?_))
   refine r_p (p_bin rfl rfl b_eq) rfl ?_
   refine r_p (p_move rfl) rfl ?_
   refine r_gp [] rfl rfl trivial (fun hg15 => p_move rfl) rfl ?_
   refine r_gp [(100, _)] rfl rfl ⟨rfl, trivial⟩ (fun hg16 => p_nilCheck rfl) rfl ?_
   refine r_gp [(100, _), (101, _)] rfl rfl ⟨rfl, rfl, trivial⟩ (fun hg17 => p_field0 fo76_4 rfl) rfl ?_
   refine r_gp [(100, _), (101, _), (102, _)] rfl rfl ⟨rfl, rfl, rfl, trivial⟩ (fun hg18 => p_load1 t58 rfl rfl (g_row1 (k := 0) rfl rfl)) rfl ?_
   refine r_gp [(100, _), (101, _), (102, _), (103, _)] rfl rfl ⟨rfl, rfl, rfl, rfl, trivial⟩ (fun hg19 => p_len_sl Tryz.underlying58 rfl (hs_own (k := 1) rfl)) rfl ?_
   refine r_gp [(100, _), (101, _), (102, _), (103, _), (104, _)] rfl rfl ⟨rfl, rfl, rfl, rfl, rfl, trivial⟩ (fun hg20 => p_bin rfl rfl b_gt) rfl ?_
   refine r_p (p_pick rfl rfl rfl (by first | exact pick_and | exact pick_or |  rfl)) rfl ?_
   refine r_p (p_assign rfl) rfl (r_nil ?_)
   refine r_cond rfl (fun h21 => ?_) (fun h21 => ?_)
   ·(try simp only [decide_eq_true_eq, decide_eq_false_iff_not, Bool.and_eq_true, Bool.or_eq_true, Bool.and_eq_false_iff, Bool.or_eq_false_iff, Bool.not_eq_true, Bool.not_eq_false, Bool.not_eq_true', Bool.not_eq_false', Bool.not_not, bne_iff_ne, beq_iff_eq] at h21)
    have h3 : k = 3 ∧ 0 < sa.names.length := ⟨h21.1, by have := h21.2; omega⟩
    obtain ⟨x6, hx6, hja6, hjb6⟩ := gN_idx (l := e.c.l) (L := sa.names) (n := (sa.names.length : Int)) (by omega) rfl sa
    refine r_seq ?_
    refine r_draw [107, 108, 109, 110, 111, 112, 113, 114, 115, 116, 117, 118, 119, 12] _ rfl (stg_mem (V := [(0, 107, _), (1, 108, _), (2, 109, _), (3, 110, _), (4, 111, _), (5, 112, _), (6, 113, _), (7, 114, _), (8, 115, _), (9, 116, _)]) [0, 1, 2, 3, 4, 5, 6, 7, 8, 9] 10 [10, 9, 8, 7, 6, 5, 4] [11, 12, 13] (fun _ => [(11, 118, _), (12, 119, _), (13, 12, _)]) rfl rfl (prs_cons (pri rfl (p_move rfl)) (prs_cons (pri rfl (p_nilCheck rfl)) (prs_cons (pri rfl (p_field0 fo76_4 rfl)) (prs_cons (pri rfl (p_load1 t58 rfl rfl (g_row1 (k := 0) rfl rfl))) (prs_cons (pri rfl (p_move rfl)) (prs_cons (pri rfl (p_move rfl)) (prs_cons (pri rfl (p_nilCheck rfl)) (prs_cons (pri rfl (p_field0 fo76_4 rfl)) (prs_cons (pri rfl (p_load1 t58 rfl rfl (g_row1 (k := 0) rfl rfl))) (prs_cons (pri rfl (p_len_sl Tryz.underlying58 rfl (hs_own (k := 1) rfl))) prs_nil)))))))))) rfl rfl rfl rfl rfl rfl rfl rfl rfl rfl rfl (fun _ _ => rfl) rfl (ms_callN (xs := [.tmp 111, .tmp 116]) (gnext_spec e.g e.vl vn e.vf e.c he.hl he.hlo ((sa.names.length : Int)) (by omega) (sa)) cb31 [0] [(false, 0)] [0] rfl rfl rfl rfl rfl rfl rfl rfl (fun _ _ => rfl) (fun _ _ _ => rfl)) (fun _ _ => stg_end [11, 12, 13, 0, 1, 2, 3] rfl rfl (prs_cons (pri rfl (p_idx_sl (j := (gN e.c.l (sa.names.length : Int) sa).1.toNat) Tryz.underlying58 t9 rfl rfl (hs_own (k := 1) rfl) hjb6 hja6)) (prs_cons (pri rfl (p_load1 t9 rfl rfl (g_el' (hs_own (k := 1) rfl) (by intro _; rfl) hx6 (by rfl)))) (prs_cons (pri rfl (p_assign rfl)) (prs_cons (pri rfl (p_move rfl)) (prs_cons (pri rfl (p_nilCheck rfl)) (prs_cons (pri rfl (p_field0 fo76_4 rfl)) (prs_cons (pri rfl (p_load1 t58 rfl rfl (g_row1 (k := 0) rfl rfl))) prs_nil))))))) rfl rfl rfl ?_))
    refine r_region (r_p (p_move rfl) rfl (r_p (p_move rfl) rfl (r_p (p_move rfl) rfl ?_)))
    refine r_callN (xs := [.tmp 122, .const (.int .i64 4)]) (gx_own he 3 (by decide) vn ((gN e.c.l (sa.names.length : Int) sa).2) (by rw [(gN_keep e.c.l (sa.names.length : Int) sa).1]; exact hin)) cb49 [0] [(false, 0), (true, 1), (false, 2)] [0, 123] rfl rfl rfl rfl rfl (by rw [(gN_keep e.c.l (sa.names.length : Int) sa).1]; rfl) rfl rfl (fun _ _ => rfl) (fun _ _ _ => rfl) rfl (fun ⟨t1, s2⟩ ht1 => ?_)
    dsimp only at ht1 ⊢
    refine r_bslice1 eTx t1 Tryz.underlying46 t48 rfl (by decide) (by decide) rfl rfl rfl rfl fun v124 => ?_
    refine r_p (p_build (parts := [(0, .const (.int .i64 2)), (1, .tmp 121), (2, .tmp 124)]) t53 pl53 rfl rfl) rfl ?_
    refine r_bslice1 eTy (.mk 2 x6 v124 [t1] nilS [] nilS []) Tryz.underlying51 t53 rfl (by decide) (by decide) rfl rfl rfl rfl fun v126 => ?_
    refine r_append 60 Tryz.underlying51 t53 rfl (by decide) (fun _ => rfl) (fun _ => rfl) rfl rfl rfl (hs_own (k := 126) rfl) (by simp only [List.length_append, List.length_cons, List.length_nil]; omega) (by unfold maxLen; simp only [List.length_append, List.length_cons, List.length_nil]; omega) rfl fun v127 => ?_
    refine r_p (p_assign rfl) rfl (r_nil (r_region (r_p (p_move rfl) rfl ?_)))
    refine r_p (p_bin rfl rfl (b_add (by first | exact w_i64 (by omega) (by omega) | rfl))) rfl ?_
    refine r_p (p_assign rfl) rfl (r_nil ?_)
    have hg1 : G1r e.c (lev) k sa (erYs [.mk 2 x6 v124 [t1] nilS [] nilS []]) (s2) := h3.1 ▸ .set h3.2 rfl hx6 ht1
    have hkp := hg1.inv hia
    refine r_collect 40 [40, 124, 123] (C := ysA (out ++ [.mk 2 x6 v124 [t1] nilS [] nilS []])) rfl st1_all ?_
    refine r_here ⟨i + 1, v127, out ++ [.mk 2 x6 v124 [t1] nilS [] nilS []], s2, vn⟩ ⟨⟨by dsimp only; omega, hkp.inv, by dsimp only; rw [List.length_append]; simp only [List.length_cons, List.length_nil]; omega, by dsimp only; rw [erYs_app]; exact gl_next hi2 hleft hk hg1 n4⟩, by dsimp only; omega⟩ rfl (by dsimp only; rw [show s2.names = sa.names from ht1.keep.1.trans (gN_keep _ _ _).1]; rfl) rfl
   ·(try simp only [decide_eq_true_eq, decide_eq_false_iff_not, Bool.and_eq_true, Bool.or_eq_true, Bool.and_eq_false_iff, Bool.or_eq_false_iff, Bool.not_eq_true, Bool.not_eq_false, Bool.not_eq_true', Bool.not_eq_false', Bool.not_not, bne_iff_ne, beq_iff_eq] at h21)
    have q3 : ¬ (k = 3 ∧ 0 < sa.names.length) := by rintro ⟨a, b⟩; rcases h21 with h | h; exact h a; omega
    refine r_seq (r_region (r_p (p_move rfl) rfl ?_))
    refine r_p (p_bin rfl rfl b_eq) rfl ?_
    refine r_p (p_move rfl) rfl ?_
    refine r_gp [] rfl rfl trivial (fun hg22 => p_move rfl) rfl ?_
    refine r_gp [(132, _)] rfl rfl ⟨rfl, trivial⟩ (fun hg23 => p_bin rfl rfl b_eq) rfl ?_
    refine r_p (p_pick rfl rfl rfl (by first | exact pick_and | exact pick_or |  rfl)) rfl ?_
    refine r_p (p_assign rfl) rfl (r_nil ?_)
    refine r_cond rfl (fun h24 => ?_) (fun h24 => ?_)
    ·(try simp only [decide_eq_true_eq, decide_eq_false_iff_not, Bool.and_eq_true, Bool.or_eq_true, Bool.and_eq_false_iff, Bool.or_eq_false_iff, Bool.not_eq_true, Bool.not_eq_false, Bool.not_eq_true', Bool.not_eq_false', Bool.not_not, bne_iff_ne, beq_iff_eq] at h24)
     have h4 : k = 4 ∨ k = 5 := h24
     refine r_seq (r_region (r_p (p_move rfl) rfl ?_))
     refine r_callN (xs := [.tmp 135, .const (.int .i64 3)]) (gx_own he 2 (by decide) vn sa hin) cb49 [0] [(false, 0), (true, 1), (false, 2)] [0, 136] rfl rfl rfl rfl rfl rfl rfl rfl (fun _ _ => rfl) (fun _ _ _ => rfl) rfl (fun ⟨t1, s2⟩ ht1 => ?_)
     dsimp only at ht1 ⊢
     refine r_alloc t48 rfl rfl fun b13 => ?_
     refine r_store_all (k := 13) t48 rfl rfl rfl rfl rfl rfl ?_
     refine r_nil ?_
     refine r_draw [137, 138, 139, 140, 141, 142, 143, 144] _ rfl (stg_mem (V := [(0, 137, _), (1, 138, _), (2, 139, _)]) [0, 1, 2] 3 [3, 2] [] (fun x2 => []) rfl rfl (prs_cons (pri rfl (p_move rfl)) (prs_cons (pri rfl (p_loadA t48 rfl rfl rfl (g_all (k := 13) rfl))) (prs_cons (pri rfl (p_move rfl)) prs_nil))) rfl rfl rfl rfl rfl rfl rfl rfl rfl rfl rfl (fun _ _ => rfl) rfl (ms_callN (xs := [.tmp 139, .const (.int .i64 4)]) (gx_own he 3 (by decide) vn (s2) (by rw [show s2.names = sa.names from ht1.keep.1]; exact hin)) cb49 [0] [(false, 0), (true, 1), (false, 2)] [0, 140] rfl rfl rfl rfl rfl (by rw [show s2.names = sa.names from ht1.keep.1]; rfl) rfl rfl (fun _ _ => rfl) (fun _ _ _ => rfl)) (fun x2 ht2 => stg_mem [0, 1] 4 [4, 3, 2, 1] [5] (fun v141 => [(5, 142, _)]) rfl rfl (prs_cons (pri rfl (p_move rfl)) (prs_cons (pri rfl (p_loadA t48 rfl rfl rfl (g_all (k := 13) rfl))) prs_nil)) rfl rfl rfl rfl rfl rfl rfl rfl rfl rfl rfl (fun _ _ => rfl) rfl (ms_bslice eTx [t1, x2.1] (parts := [(0, .tmp 138), (1, .tmp 140)]) Tryz.underlying46 t48 rfl (by decide) (by intro _; rfl) rfl (by decide) (by decide) rfl rfl rfl) (fun v141 _ => stg_mem [5, 0] 6 [6, 5, 4, 3, 2, 1] [] (fun v143 => []) rfl rfl (prs_cons (pri rfl (p_build (parts := [(0, .const (.int .i64 3)), (2, .tmp 141)]) t53 pl53 rfl rfl)) (prs_cons (pri rfl (p_move rfl)) prs_nil)) rfl rfl rfl rfl rfl rfl rfl rfl rfl rfl rfl (fun _ _ => rfl) rfl (ms_bslice1 eTy (.mk 3 oNil v141 [t1, x2.1] nilS [] nilS []) Tryz.underlying51 t53 rfl (by decide) (by decide) rfl rfl rfl) (fun v143 _ => stg_mem [0] 7 [7, 6, 5, 4, 3, 2, 1, 0] [] (fun v144 => []) rfl rfl (prs_cons (pri rfl (p_move rfl)) prs_nil) rfl rfl rfl rfl rfl rfl rfl rfl rfl rfl rfl (fun _ _ => rfl) rfl (ms_append 60 Tryz.underlying51 t53 rfl (by decide) (fun _ => rfl) (fun _ => rfl) rfl rfl rfl (hs_own (k := 143) rfl) (by simp only [List.length_append, List.length_cons, List.length_nil]; omega) (by unfold maxLen; simp only [List.length_append, List.length_cons, List.length_nil]; omega)) (fun v144 _ => stg_last [] 8 [8, 7, 6, 5, 4, 3, 2, 1, 0] rfl rfl prs_nil rfl rfl rfl rfl rfl rfl rfl rfl (p_assign rfl) ?_)))))
     refine r_region (r_p (p_move rfl) rfl ?_)
     refine r_p (p_bin rfl rfl (b_add (by first | exact w_i64 (by omega) (by omega) | rfl))) rfl ?_
     refine r_p (p_assign rfl) rfl (r_nil ?_)
     have hg1 : G1r e.c (lev) k sa (erYs [.mk 3 oNil v141 [t1, x2.1] nilS [] nilS []]) (x2.2) := .put h4 ht1 ht2
     have hkp := hg1.inv hia
     refine r_collect 40 [40, 141, 136, 140] (C := ysA (out ++ [.mk 3 oNil v141 [t1, x2.1] nilS [] nilS []])) rfl st2_all ?_
     refine r_here ⟨i + 1, v144, out ++ [.mk 3 oNil v141 [t1, x2.1] nilS [] nilS []], x2.2, vn⟩ ⟨⟨by dsimp only; omega, hkp.inv, by dsimp only; rw [List.length_append]; simp only [List.length_cons, List.length_nil]; omega, by dsimp only; rw [erYs_app]; exact gl_next hi2 hleft hk hg1 n4⟩, by dsimp only; omega⟩ rfl (by dsimp only; rw [show x2.2.names = sa.names from ht2.keep.1.trans ht1.keep.1]; rfl) rfl
    ·(try simp only [decide_eq_true_eq, decide_eq_false_iff_not, Bool.and_eq_true, Bool.or_eq_true, Bool.and_eq_false_iff, Bool.or_eq_false_iff, Bool.not_eq_true, Bool.not_eq_false, Bool.not_eq_true', Bool.not_eq_false', Bool.not_not, bne_iff_ne, beq_iff_eq] at h24)
     have q4 : ¬ k = 4 ∧ ¬ k = 5 := h24
     refine r_seq (r_region (r_p (p_move rfl) rfl ?_))
     refine r_p (p_bin rfl rfl b_eq) rfl ?_
     refine r_p (p_move rfl) rfl ?_
     refine r_gp [] rfl rfl trivial (fun hg25 => p_move rfl) rfl ?_
     refine r_gp [(149, _)] rfl rfl ⟨rfl, trivial⟩ (fun hg26 => p_bin rfl rfl b_lt) rfl ?_
     refine r_p (p_pick rfl rfl rfl (by first | exact pick_and | exact pick_or |  rfl)) rfl ?_
     refine r_p (p_assign rfl) rfl (r_nil ?_)
     refine r_cond rfl (fun h27 => ?_) (fun h27 => ?_)
     ·(try simp only [decide_eq_true_eq, decide_eq_false_iff_not, Bool.and_eq_true, Bool.or_eq_true, Bool.and_eq_false_iff, Bool.or_eq_false_iff, Bool.not_eq_true, Bool.not_eq_false, Bool.not_eq_true', Bool.not_eq_false', Bool.not_not, bne_iff_ne, beq_iff_eq] at h27)
      have h5 : k = 6 := h27.1
      obtain ⟨lv, rfl⟩ : ∃ lv, lev = lv + 1 := ⟨lev - 1, by have := h27.2; omega⟩
      refine r_seq (r_region (r_p (p_move rfl) rfl ?_))
      refine r_callN (xs := [.tmp 152, .const (.int .i64 3)]) (gx_own he 2 (by decide) vn sa hin) cb49 [0] [(false, 0), (true, 1), (false, 2)] [0, 153] rfl rfl rfl rfl rfl rfl rfl rfl (fun _ _ => rfl) (fun _ _ _ => rfl) rfl (fun ⟨t1, s2⟩ ht1 => ?_)
      dsimp only at ht1 ⊢
      have hi2b : GInv s2 := hia.same ht1.keep
      refine r_bslice1 eTx t1 Tryz.underlying46 t48 rfl (by decide) (by decide) rfl rfl rfl rfl fun v154 => ?_
      refine r_p (p_build (parts := [(0, .const (.int .i64 4)), (2, .tmp 154)]) t53 pl53 rfl rfl) rfl ?_
      refine r_alloc t53 rfl rfl fun b14 => ?_
      refine r_store_all (k := 14) t53 rfl rfl rfl rfl rfl rfl ?_
      refine r_nil (r_seq (r_region (r_p (p_move rfl) rfl (r_p (p_move rfl) rfl ?_))))
      refine r_p (p_bin rfl rfl (b_add (c := 4 - (lv : Int)) (by rw [show 4 - ((lv + 1 : Nat) : Int) + 1 = 4 - (lv : Int) by omega]; exact w_i64 (by omega) (by omega)))) rfl ?_
      refine r_callN (xs := [.tmp 156, .tmp 158]) (ih lv rfl s2 vn hi2b) cb32 [0, 1] [(false, 0), (false, 2)] [0, 1, 61, 62] rfl rfl rfl rfl (by rw [show s2.names = sa.names from ht1.keep.1]; rfl) rfl rfl rfl (fun _ _ => rfl) (fun _ _ _ => rfl) rfl (fun ⟨vb1, l1, s3, vn2⟩ hl1 => ?_)
      dsimp only at hl1 ⊢
      have hi3 : GInv s3 := (hl1.1.inv hi2b).inv
      obtain ⟨j6, s4, hj6⟩ : ∃ a b, gN e.c.l 2 s3 = (a, b) := ⟨_, _, rfl⟩
      refine r_p (p_field0 fo53_3 rfl) rfl ?_
      refine r_store_row (k := 14) t51 rfl rfl rfl rfl rfl rfl rfl rfl ?_
      refine r_nil (r_seq (r_seq (r_region (r_p (p_move rfl) rfl ?_))))
      refine r_callN (xs := [.tmp 161, .const (.int .i64 2)]) (gnext_spec e.g e.vl vn2 e.vf e.c he.hl he.hlo 2 (by decide) s3) cb31 [0] [(false, 0)] [0] rfl rfl rfl rfl rfl rfl rfl rfl (fun _ _ => rfl) (fun _ _ _ => rfl) rfl (fun _ _ => ?_)
      rw [hj6]
      dsimp only
      refine r_p (p_bin rfl rfl b_eq) rfl ?_
      refine r_nil ?_
      refine r_cond rfl (fun h28 => ?_) (fun h28 => ?_)
      ·(try simp only [decide_eq_true_eq, decide_eq_false_iff_not, Bool.and_eq_true, Bool.or_eq_true, Bool.and_eq_false_iff, Bool.or_eq_false_iff, Bool.not_eq_true, Bool.not_eq_false, Bool.not_eq_true', Bool.not_eq_false', Bool.not_not, bne_iff_ne, beq_iff_eq] at h28)
       have hj6e : j6 = 1 := h28
       refine r_region (r_p (p_move rfl) rfl (r_p (p_move rfl) rfl ?_))
       refine r_p (p_bin rfl rfl (b_add (c := 4 - (lv : Int)) (by rw [show 4 - ((lv + 1 : Nat) : Int) + 1 = 4 - (lv : Int) by omega]; exact w_i64 (by omega) (by omega)))) rfl ?_
       refine r_callN (xs := [.tmp 164, .tmp 166]) (ih lv rfl s4 vn2 (hi3.same (gN_st2 hj6))) cb32 [0, 1] [(false, 0), (false, 2)] [0, 1, 63, 64] rfl rfl rfl rfl (by rw [show s4.names = s3.names from (gN_st2 hj6).1]; rfl) rfl rfl rfl (fun _ _ => rfl) (fun _ _ _ => rfl) rfl (fun ⟨vb2, l2, s5, vn3⟩ hl2 => ?_)
       dsimp only at hl2 ⊢
       refine r_p (p_field0 fo53_4 rfl) rfl ?_
       refine r_store_row (k := 14) t51 rfl rfl rfl rfl rfl rfl rfl rfl ?_
       refine r_nil (r_region (r_p (p_move rfl) rfl ?_))
       refine r_p (p_loadA t53 rfl rfl rfl (g_all (k := 14) rfl)) rfl ?_
       refine r_bslice1 eTy (.mk 4 oNil v154 [t1] vb1 l1 vb2 l2) Tryz.underlying51 t53 rfl (by decide) (by decide) rfl rfl rfl rfl fun v171 => ?_
       refine r_append 60 Tryz.underlying51 t53 rfl (by decide) (fun _ => rfl) (fun _ => rfl) rfl rfl rfl (hs_own (k := 171) rfl) (by simp only [List.length_append, List.length_cons, List.length_nil]; omega) (by unfold maxLen; simp only [List.length_append, List.length_cons, List.length_nil]; omega) rfl fun v172 => ?_
       refine r_p (p_assign rfl) rfl (r_nil (r_region (r_p (p_move rfl) rfl ?_)))
       refine r_p (p_bin rfl rfl (b_add (by first | exact w_i64 (by omega) (by omega) | rfl))) rfl ?_
       refine r_p (p_assign rfl) rfl (r_nil ?_)
       have hg1 : G1r e.c (lv + 1) k sa (erYs [.mk 4 oNil v154 [t1] vb1 l1 vb2 l2]) (s5) := h5 ▸ .iff1 ht1 hl1.1 (hj6e ▸ hj6) hl2.1
       have hkp := hg1.inv hia
       refine r_collect 40 [40, 154, 153, 61, 62, 63, 64] (C := ysA (out ++ [.mk 4 oNil v154 [t1] vb1 l1 vb2 l2])) rfl sti1_all ?_
       refine r_here ⟨i + 1, v172, out ++ [.mk 4 oNil v154 [t1] vb1 l1 vb2 l2], s5, vn3⟩ ⟨⟨by dsimp only; omega, hkp.inv, by dsimp only; rw [List.length_append]; simp only [List.length_cons, List.length_nil]; omega, by dsimp only; rw [erYs_app]; exact gl_next hi2 hleft hk hg1 n4⟩, by dsimp only; omega⟩ rfl rfl rfl
      ·(try simp only [decide_eq_true_eq, decide_eq_false_iff_not, Bool.and_eq_true, Bool.or_eq_true, Bool.and_eq_false_iff, Bool.or_eq_false_iff, Bool.not_eq_true, Bool.not_eq_false, Bool.not_eq_true', Bool.not_eq_false', Bool.not_not, bne_iff_ne, beq_iff_eq] at h28)
       have hj6e : j6 ≠ 1 := h28
       refine r_skip (r_region (r_p (p_move rfl) rfl ?_))
       refine r_p (p_loadA t53 rfl rfl rfl (g_all (k := 14) rfl)) rfl ?_
       refine r_bslice1 eTy (.mk 4 oNil v154 [t1] vb1 l1 nilS []) Tryz.underlying51 t53 rfl (by decide) (by decide) rfl rfl rfl rfl fun v171 => ?_
       refine r_append 60 Tryz.underlying51 t53 rfl (by decide) (fun _ => rfl) (fun _ => rfl) rfl rfl rfl (hs_own (k := 171) rfl) (by simp only [List.length_append, List.length_cons, List.length_nil]; omega) (by unfold maxLen; simp only [List.length_append, List.length_cons, List.length_nil]; omega) rfl fun v172 => ?_
       refine r_p (p_assign rfl) rfl (r_nil (r_region (r_p (p_move rfl) rfl ?_)))
       refine r_p (p_bin rfl rfl (b_add (by first | exact w_i64 (by omega) (by omega) | rfl))) rfl ?_
       refine r_p (p_assign rfl) rfl (r_nil ?_)
       have hg1 : G1r e.c (lv + 1) k sa (erYs [.mk 4 oNil v154 [t1] vb1 l1 nilS []]) (s4) := h5 ▸ .iff0 ht1 hl1.1 hj6 hj6e
       have hkp := hg1.inv hia
       refine r_collect 40 [40, 154, 153, 61, 62] (C := ysA (out ++ [.mk 4 oNil v154 [t1] vb1 l1 nilS []])) rfl sti0_all ?_
       refine r_here ⟨i + 1, v172, out ++ [.mk 4 oNil v154 [t1] vb1 l1 nilS []], s4, vn2⟩ ⟨⟨by dsimp only; omega, hkp.inv, by dsimp only; rw [List.length_append]; simp only [List.length_cons, List.length_nil]; omega, by dsimp only; rw [erYs_app]; exact gl_next hi2 hleft hk hg1 n4⟩, by dsimp only; omega⟩ rfl (by dsimp only; rw [show s4.names = s3.names from (gN_st2 hj6).1]; rfl) rfl
     ·(try simp only [decide_eq_true_eq, decide_eq_false_iff_not, Bool.and_eq_true, Bool.or_eq_true, Bool.and_eq_false_iff, Bool.or_eq_false_iff, Bool.not_eq_true, Bool.not_eq_false, Bool.not_eq_true', Bool.not_eq_false', Bool.not_not, bne_iff_ne, beq_iff_eq] at h27)
      have q5 : ¬ (k = 6 ∧ 1 ≤ lev) := by rintro ⟨a, b⟩; rcases h27 with h | h; exact h a; omega
      refine r_seq (r_region (r_p (p_move rfl) rfl ?_))
      refine r_p (p_bin rfl rfl b_eq) rfl ?_
      refine r_p (p_move rfl) rfl ?_
      refine r_gp [] rfl rfl trivial (fun hg29 => p_move rfl) rfl ?_
      refine r_gp [(177, _)] rfl rfl ⟨rfl, trivial⟩ (fun hg30 => p_bin rfl rfl b_lt) rfl ?_
      refine r_p (p_pick rfl rfl rfl (by first | exact pick_and | exact pick_or |  rfl)) rfl ?_
      refine r_p (p_move rfl) rfl ?_
      refine r_gp [] rfl rfl trivial (fun hg31 => p_move rfl) rfl ?_
      refine r_gp [(181, _)] rfl rfl ⟨rfl, trivial⟩ (fun hg32 => p_nilCheck rfl) rfl ?_
      refine r_gp [(181, _), (182, _)] rfl rfl ⟨rfl, rfl, trivial⟩ (fun hg33 => p_field0 fo76_5 rfl) rfl ?_
      refine r_gp [(181, _), (182, _), (183, _)] rfl rfl ⟨rfl, rfl, rfl, trivial⟩ (fun hg34 => p_load1 t3 rfl rfl (g_row1 (k := 0) rfl rfl)) rfl ?_
      refine r_gp [(181, _), (182, _), (183, _), (184, _)] rfl rfl ⟨rfl, rfl, rfl, rfl, trivial⟩ (fun hg35 => p_move rfl) rfl ?_
      refine r_gp [(181, _), (182, _), (183, _), (184, _), (185, _)] rfl rfl ⟨rfl, rfl, rfl, rfl, rfl, trivial⟩ (fun hg36 => p_len_sl Tryz.underlying58 rfl (hs_own (k := 43) rfl)) rfl ?_
      refine r_gp [(181, _), (182, _), (183, _), (184, _), (185, _), (186, _)] rfl rfl ⟨rfl, rfl, rfl, rfl, rfl, rfl, trivial⟩ (fun hg37 => p_bin rfl rfl b_lt) rfl ?_
      refine r_p (p_pick rfl rfl rfl (by first | exact pick_and | exact pick_or |  rfl)) rfl ?_
      refine r_p (p_assign rfl) rfl (r_nil ?_)
      refine r_cond rfl (fun h38 => ?_) (fun h38 => ?_)
      ·(try simp only [decide_eq_true_eq, decide_eq_false_iff_not, Bool.and_eq_true, Bool.or_eq_true, Bool.and_eq_false_iff, Bool.or_eq_false_iff, Bool.not_eq_true, Bool.not_eq_false, Bool.not_eq_true', Bool.not_eq_false', Bool.not_not, bne_iff_ne, beq_iff_eq] at h38)
       have h7 : k = 7 ∧ sa.vars < 8 := ⟨h38.1.1, h38.2⟩
       obtain ⟨lv, rfl⟩ : ∃ lv, lev = lv + 2 := ⟨lev - 2, by have := h38.1.2; omega⟩
       obtain ⟨nm, hnm, hnm1, hnm2⟩ := fresh_at hia.v0 h7.2
       obtain ⟨j7, s2, hj7⟩ : ∃ a b, gN e.c.l 5 { sa with vars := sa.vars + 1 } = (a, b) := ⟨_, _, rfl⟩
       have hjb7 := gN_bd (by decide) hj7
       have hi2b : GInv s2 := GInv.same (hia.var h7.2) (gN_st2 hj7)
       refine r_seq (r_region (r_p (p_move rfl) rfl (r_p (p_move rfl) rfl (r_p (p_nilCheck rfl) rfl ?_))))
       refine r_p (p_field0 fo76_5 rfl) rfl ?_
       refine r_p (p_load1 t3 rfl rfl (g_row1 (k := 0) rfl rfl)) rfl ?_
       refine r_p (p_idx_sl (j := sa.vars.toNat) Tryz.underlying58 t9 rfl rfl (hs_own (k := 43) rfl) hnm2 hnm1) rfl ?_
       refine r_p (p_load1 t9 rfl rfl (g_el' (hs_own (k := 43) rfl) (by intro _; rfl) hnm (by rfl))) rfl ?_
       refine r_p (p_assign rfl) rfl (r_nil (r_seq (r_region (r_p (p_move rfl) rfl (r_p (p_nilCheck rfl) rfl ?_)))))
       refine r_p (p_field0 fo76_5 rfl) rfl ?_
       refine r_p (p_load1 t3 rfl rfl (g_row1 (k := 0) rfl rfl)) rfl ?_
       refine r_p (p_bin rfl rfl (b_add (by first | exact w_i64 (by omega) (by omega) | rfl))) rfl ?_
       refine r_p (p_nilCheck rfl) rfl ?_
       refine r_p (p_field0 fo76_5 rfl) rfl ?_
       refine r_store_row (k := 0) t3 rfl rfl rfl rfl rfl rfl rfl rfl ?_
       refine r_nil (r_seq (r_region (r_p (p_move rfl) rfl ?_)))
       refine r_p (p_build (parts := [(0, .const (.int .i64 2)), (2, .tmp 203)]) t48 pl48 rfl rfl) rfl ?_
       refine r_alloc t48 rfl rfl fun b16 => ?_
       refine r_store_all (k := 16) t48 rfl rfl rfl rfl rfl rfl ?_
       refine r_nil (r_seq (r_region (r_p (p_move rfl) rfl (r_p (p_move rfl) rfl (r_p (p_move rfl) rfl ?_)))))
       refine r_callN (xs := [.tmp 207, .const (.int .i64 5)]) (gnext_spec e.g e.vl vn e.vf e.c he.hl he.hlo (5) (by decide) ({ sa with vars := sa.vars + 1 })) cb31 [0] [(false, 0)] [0] rfl rfl rfl rfl rfl rfl rfl rfl (fun _ _ => rfl) (fun _ _ _ => rfl) rfl (fun _ _ => ?_)
       rw [hj7]
       dsimp only
       refine r_p (p_conv Tryz.underlying3 Tryz.underlying36 rfl (by first | exact w_u32 (by omega) (by omega) | rfl)) rfl ?_
       refine r_p (p_build (parts := [(0, .const (.int .i64 1)), (1, .tmp 209)]) t48 pl48 rfl rfl) rfl ?_
       refine r_bslice1 eTx (tNum j7) Tryz.underlying46 t48 rfl (by decide) (by decide) rfl rfl rfl rfl fun v211 => ?_
       refine r_p (p_build (parts := [(0, .const (.int .i64 1)), (1, .tmp 206), (2, .tmp 211)]) t53 pl53 rfl rfl) rfl ?_
       refine r_bslice1 eTy (wVar nm v211 j7) Tryz.underlying51 t53 rfl (by decide) (by decide) rfl rfl rfl rfl fun v213 => ?_
       refine r_append 60 Tryz.underlying51 t53 rfl (by decide) (fun _ => rfl) (fun _ => rfl) rfl rfl rfl (hs_own (k := 213) rfl) (by simp only [List.length_append, List.length_cons, List.length_nil]; omega) (by unfold maxLen; simp only [List.length_append, List.length_cons, List.length_nil]; omega) rfl fun v214 => ?_
       refine r_p (p_assign rfl) rfl (r_nil (r_seq (r_region ?_)))
       refine r_p (p_loadA t48 rfl rfl rfl (g_all (k := 16) rfl)) rfl ?_
       refine r_bslice1 eTx (tName nm) Tryz.underlying46 t48 rfl (by decide) (by decide) rfl rfl rfl rfl fun v216 => ?_
       refine r_p (p_build (parts := [(0, .const (.int .i64 5)), (2, .tmp 216)]) t53 pl53 rfl rfl) rfl ?_
       refine r_alloc t53 rfl rfl fun b17 => ?_
       refine r_store_all (k := 17) t53 rfl rfl rfl rfl rfl rfl ?_
       refine r_nil (r_seq (r_region (r_p (p_move rfl) rfl (r_p (p_move rfl) rfl ?_))))
       refine r_p (p_bin rfl rfl (b_add (c := 4 - ((lv + 1 : Nat) : Int)) (by rw [show 4 - ((lv + 2 : Nat) : Int) + 1 = 4 - ((lv + 1 : Nat) : Int) by omega]; exact w_i64 (by omega) (by omega)))) rfl ?_
       refine r_callN (xs := [.tmp 218, .tmp 220]) (ih (lv + 1) rfl s2 vn hi2b) cb32 [0, 1] [(false, 0), (false, 2)] [0, 1, 61, 62] rfl rfl rfl rfl (by rw [show s2.names = sa.names from (gN_st2 hj7).1]; rfl) rfl rfl rfl (fun _ _ => rfl) (fun _ _ _ => rfl) rfl (fun ⟨vb1, l1, s3, vn2⟩ hl1 => ?_)
       dsimp only at hl1 ⊢
       have hi3 : GInv s3 := (hl1.1.inv hi2b).inv
       refine r_p (p_field0 fo53_3 rfl) rfl ?_
       refine r_store_row (k := 17) t51 rfl rfl rfl rfl rfl rfl rfl rfl ?_
       refine r_nil (r_seq (r_region ?_))
       refine r_p (p_field0 fo53_3 rfl) rfl ?_
       refine r_p (p_load1 t51 rfl rfl (g_row1 (k := 17) rfl rfl)) rfl ?_
       refine r_p (p_move rfl) rfl ?_
       refine r_p (p_loadA t48 rfl rfl rfl (g_all (k := 16) rfl)) rfl ?_
       refine r_p (p_build (parts := [(0, .const (.int .i64 1)), (1, .const (.int .u32 1))]) t48 pl48 rfl rfl) rfl ?_
       refine r_bslice eTx [tName nm, tNum 1] (parts := [(0, .tmp 226), (1, .tmp 227)]) Tryz.underlying46 t48 rfl (by decide) (by intro _; rfl) rfl (by decide) (by decide) rfl rfl rfl rfl fun v228 => ?_
       refine r_p (p_build (parts := [(0, .const (.int .i64 7)), (2, .const (.string (ByteArray.mk #[45]))), (3, .tmp 228)]) t48 pl48 rfl rfl) rfl ?_
       refine r_bslice1 eTx (tBin oSub v228 (tName nm) (tNum 1)) Tryz.underlying46 t48 rfl (by decide) (by decide) rfl rfl rfl rfl fun v230 => ?_
       refine r_p (p_build (parts := [(0, .const (.int .i64 2)), (1, .tmp 225), (2, .tmp 230)]) t53 pl53 rfl rfl) rfl ?_
       refine r_bslice1 eTy (wDown nm v230 v228) Tryz.underlying51 t53 rfl (by decide) (by decide) rfl rfl rfl rfl fun v232 => ?_
       refine r_append 61 Tryz.underlying51 t53 rfl (by decide) (fun _ => rfl) (fun _ => rfl) rfl rfl rfl (hs_own (k := 232) rfl) (by have := hl1.2; simp only [List.length_singleton]; omega) (by unfold maxLen; have := hl1.2; simp only [List.length_singleton]; omega) rfl fun v233 => ?_
       refine r_p (p_field0 fo53_3 rfl) rfl ?_
       refine r_store_row (k := 17) t51 rfl rfl rfl rfl rfl rfl rfl rfl ?_
       refine r_nil (r_seq (r_region (r_p (p_move rfl) rfl (r_p (p_move rfl) rfl (r_p (p_nilCheck rfl) rfl ?_)))))
       refine r_p (p_field0 fo76_4 rfl) rfl ?_
       refine r_p (p_load1 t58 rfl rfl (g_row1 (k := 0) rfl rfl)) rfl ?_
       refine r_p (p_move rfl) rfl ?_
       refine r_bslice1 eS nm Tryz.underlying58 t9 rfl (by decide) (by decide) rfl rfl rfl rfl fun v241 => ?_
       refine r_append 1 Tryz.underlying58 t9 rfl (by decide) (fun _ => rfl) (fun _ => rfl) rfl rfl rfl (hs_own (k := 241) rfl) (by have := hi3.n; simp only [List.length_singleton]; omega) (by unfold maxLen; have := hi3.n; simp only [List.length_singleton]; omega) rfl fun v242 => ?_
       refine r_p (p_nilCheck rfl) rfl ?_
       refine r_p (p_field0 fo76_4 rfl) rfl ?_
       refine r_store_row (k := 0) t58 rfl rfl rfl rfl rfl rfl rfl rfl ?_
       refine r_nil (r_region (r_p (p_move rfl) rfl ?_))
       refine r_p (p_loadA t53 rfl rfl rfl (g_all (k := 17) rfl)) rfl ?_
       refine r_bslice1 eTy (wLoop nm v216 v233 (l1 ++ [wDown nm v230 v228])) Tryz.underlying51 t53 rfl (by decide) (by decide) rfl rfl rfl rfl fun v247 => ?_
       refine r_append 60 Tryz.underlying51 t53 rfl (by decide) (fun _ => rfl) (fun _ => rfl) rfl rfl rfl (hs_own (k := 247) rfl) (by simp only [List.length_append, List.length_cons, List.length_nil]; omega) (by unfold maxLen; simp only [List.length_append, List.length_cons, List.length_nil]; omega) rfl fun v248 => ?_
       refine r_p (p_assign rfl) rfl (r_nil (r_region (r_p (p_move rfl) rfl ?_)))
       refine r_p (p_bin rfl rfl (b_add (by first | exact w_i64 (by omega) (by omega) | rfl))) rfl ?_
       refine r_p (p_assign rfl) rfl (r_nil ?_)
       have hg1 : G1r e.c (lv + 2) k sa (erYs [wVar nm v211 j7, wLoop nm v216 v233 (l1 ++ [wDown nm v230 v228])]) ({ s3 with names := s3.names ++ [nm] }) := (by rw [er_whi]; exact h7.1 ▸ .whi hnm h7.2 hj7 hl1.1)
       have hkp := hg1.inv hia
       refine r_collect 40 [40, 211, 216, 62, 228, 230, 61] (C := ysA (out ++ [wVar nm v211 j7, wLoop nm v216 v233 (l1 ++ [wDown nm v230 v228])])) rfl stw_all ?_
       refine r_here ⟨i + 1, v248, out ++ [wVar nm v211 j7, wLoop nm v216 v233 (l1 ++ [wDown nm v230 v228])], { s3 with names := s3.names ++ [nm] }, v242⟩ ⟨⟨by dsimp only; omega, hkp.inv, by dsimp only; rw [List.length_append]; simp only [List.length_cons, List.length_nil]; omega, by dsimp only; rw [erYs_app]; exact gl_next hi2 hleft hk hg1 n4⟩, by dsimp only; omega⟩ rfl (by dsimp only; rw [show out ++ [wVar nm v211 j7, wLoop nm v216 v233 (l1 ++ [wDown nm v230 v228])] = out ++ [wVar nm v211 j7] ++ [wLoop nm v216 v233 (l1 ++ [wDown nm v230 v228])] from (List.append_assoc out [_] [_]).symm]; rfl) rfl
      ·(try simp only [decide_eq_true_eq, decide_eq_false_iff_not, Bool.and_eq_true, Bool.or_eq_true, Bool.and_eq_false_iff, Bool.or_eq_false_iff, Bool.not_eq_true, Bool.not_eq_false, Bool.not_eq_true', Bool.not_eq_false', Bool.not_not, bne_iff_ne, beq_iff_eq] at h38)
       have q7 : ¬ (k = 7 ∧ 2 ≤ lev ∧ sa.vars < 8) := by rintro ⟨a, b, c⟩; rcases h38 with (h | h) | h; exact h a; omega; exact h c
       refine r_seq (r_region (r_p (p_move rfl) rfl ?_))
       refine r_p (p_bin rfl rfl b_eq) rfl ?_
       refine r_p (p_move rfl) rfl ?_
       refine r_split (t := 252) rfl (fun h39 => ?_) (fun h39 => ?_)
       ·(try simp only [decide_eq_true_eq, decide_eq_false_iff_not, Bool.and_eq_true, Bool.or_eq_true, Bool.and_eq_false_iff, Bool.or_eq_false_iff, Bool.not_eq_true, Bool.not_eq_false, Bool.not_eq_true', Bool.not_eq_false', Bool.not_not, bne_iff_ne, beq_iff_eq] at h39)
        have h8 : k = 8 := h39
        obtain ⟨j8, sb, hj8⟩ : ∃ a b, gN e.c.l 3 sa = (a, b) := ⟨_, _, rfl⟩
        have hnb : sb.names = sa.names := (gN_st2 hj8).1
        refine r_gyes rfl rfl ?_
        refine r_p (p_move rfl) rfl ?_
        refine r_gyes rfl rfl ?_
        refine r_callN (xs := [.tmp 253, .const (.int .i64 3)]) (gnext_spec e.g e.vl vn e.vf e.c he.hl he.hlo (3) (by decide) (sa)) cb31 [0] [(false, 0)] [0] rfl rfl rfl rfl rfl rfl rfl rfl (fun _ _ => rfl) (fun _ _ _ => rfl) rfl (fun _ _ => ?_)
        rw [hj8]
        dsimp only
        refine r_gyes rfl rfl ?_
        refine r_p (p_bin rfl rfl b_eq) rfl ?_
        refine r_p (p_pick rfl rfl rfl (by first | exact pick_and | exact pick_or |  rfl)) rfl ?_
        refine r_p (p_assign rfl) rfl (r_nil ?_)
        refine r_cond rfl (fun h40 => ?_) (fun h40 => ?_)
        ·(try simp only [decide_eq_true_eq, decide_eq_false_iff_not, Bool.and_eq_true, Bool.or_eq_true, Bool.and_eq_false_iff, Bool.or_eq_false_iff, Bool.not_eq_true, Bool.not_eq_false, Bool.not_eq_true', Bool.not_eq_false', Bool.not_not, bne_iff_ne, beq_iff_eq] at h40)
         have h80 : j8 = 0 := h40.2
         refine r_region (r_p (p_move rfl) rfl (r_p (p_move rfl) rfl ?_))
         refine r_callN (xs := [.tmp 258, .const (.int .i64 4)]) (gx_own he 3 (by decide) vn (sb) (by rw [hnb]; exact hin)) cb49 [0] [(false, 0), (true, 1), (false, 2)] [0, 259] rfl rfl rfl rfl rfl (by rw [hnb]; rfl) rfl rfl (fun _ _ => rfl) (fun _ _ _ => rfl) rfl (fun ⟨t1, s2⟩ ht1 => ?_)
         dsimp only at ht1 ⊢
         refine r_bslice1 eTx t1 Tryz.underlying46 t48 rfl (by decide) (by decide) rfl rfl rfl rfl fun v260 => ?_
         refine r_p (p_build (parts := [(0, .const (.int .i64 6)), (2, .tmp 260)]) t53 pl53 rfl rfl) rfl ?_
         refine r_bslice1 eTy (.mk 6 oNil v260 [t1] nilS [] nilS []) Tryz.underlying51 t53 rfl (by decide) (by decide) rfl rfl rfl rfl fun v262 => ?_
         refine r_append 60 Tryz.underlying51 t53 rfl (by decide) (fun _ => rfl) (fun _ => rfl) rfl rfl rfl (hs_own (k := 262) rfl) (by simp only [List.length_append, List.length_cons, List.length_nil]; omega) (by unfold maxLen; simp only [List.length_append, List.length_cons, List.length_nil]; omega) rfl fun v263 => ?_
         refine r_p (p_assign rfl) rfl (r_nil (r_region (r_p (p_move rfl) rfl ?_)))
         refine r_p (p_bin rfl rfl (b_add (by first | exact w_i64 (by omega) (by omega) | rfl))) rfl ?_
         refine r_p (p_assign rfl) rfl (r_nil ?_)
         have hg1 : G1r e.c (lev) k sa (erYs [.mk 6 oNil v260 [t1] nilS [] nilS []]) (s2) := h8 ▸ .ret (h80 ▸ hj8) ht1
         have hkp := hg1.inv hia
         refine r_collect 40 [40, 260, 259] (C := ysA (out ++ [.mk 6 oNil v260 [t1] nilS [] nilS []])) rfl st1_all ?_
         refine r_here ⟨i + 1, v263, out ++ [.mk 6 oNil v260 [t1] nilS [] nilS []], s2, vn⟩ ⟨⟨by dsimp only; omega, hkp.inv, by dsimp only; rw [List.length_append]; simp only [List.length_cons, List.length_nil]; omega, by dsimp only; rw [erYs_app]; exact gl_next hi2 hleft hk hg1 n4⟩, by dsimp only; omega⟩ rfl (by dsimp only; rw [show s2.names = sa.names from ht1.keep.1.trans (gN_st2 hj8).1]; rfl) rfl
        ·(try simp only [decide_eq_true_eq, decide_eq_false_iff_not, Bool.and_eq_true, Bool.or_eq_true, Bool.and_eq_false_iff, Bool.or_eq_false_iff, Bool.not_eq_true, Bool.not_eq_false, Bool.not_eq_true', Bool.not_eq_false', Bool.not_not, bne_iff_ne, beq_iff_eq] at h40)
         have h80 : j8 ≠ 0 := by simpa using h40
         refine r_seq ?_
         refine r_draw [265, 266, 267, 268, 269, 270, 271, 272, 273, 274, 275, 276, 277, 278, 279, 264] _ rfl (stg_end (V := [(0, 265, _), (1, 266, _), (2, 267, _), (3, 268, _), (4, 269, _), (5, 270, _), (6, 271, _), (7, 272, _), (8, 273, _), (9, 274, _), (10, 275, _), (11, 276, _), (12, 277, _), (13, 278, _), (14, 279, _), (15, 264, _)]) [0, 1, 2, 3, 4, 5, 6, 7, 8, 9, 10, 11, 12, 13, 14, 15] rfl rfl (prs_cons (pri rfl (p_move rfl)) (prs_cons (pri rfl (p_bin rfl rfl b_eq)) (prs_cons (pri rfl (p_move rfl)) (prs_cons (prig_s [] rfl rfl rfl trivial (fun hg41 => p_move rfl)) (prs_cons (prig_s [(268, _)] rfl rfl rfl ⟨rfl, trivial⟩ (fun hg42 => p_nilCheck rfl)) (prs_cons (prig_s [(269, _)] rfl rfl rfl ⟨rfl, trivial⟩ (fun hg43 => p_field0 fo76_6 rfl)) (prs_cons (prig_s [(270, _)] rfl rfl rfl ⟨rfl, trivial⟩ (fun hg44 => p_load1 t3 rfl rfl (g_row1 (k := 0) rfl rfl))) (prs_cons (prig_s [(271, _)] rfl rfl rfl ⟨rfl, trivial⟩ (fun hg45 => p_bin rfl rfl (b_add (by first | exact w_i64 (by omega) (by omega) | rfl)))) (prs_cons (prig_s [] rfl rfl rfl trivial (fun hg46 => p_move rfl)) (prs_cons (prig_s [(273, _)] rfl rfl rfl ⟨rfl, trivial⟩ (fun hg47 => p_nilCheck rfl)) (prs_cons (prig_s [(274, _)] rfl rfl rfl ⟨rfl, trivial⟩ (fun hg48 => p_field0 fo76_7 rfl)) (prs_cons (prig_s [(275, _)] rfl rfl rfl ⟨rfl, trivial⟩ (fun hg49 => p_load1 t27 rfl rfl (g_row1 (k := 0) rfl rfl))) (prs_cons (prig_s [(276, _)] rfl rfl rfl ⟨rfl, trivial⟩ (fun hg50 => p_len_sl Tryz.underlying27 rfl (hs_sl (k := 3) rfl))) (prs_cons (prig_s [(272, _), (277, _)] rfl rfl rfl ⟨rfl, rfl, trivial⟩ (fun hg51 => p_bin rfl rfl b_lt)) (prs_cons (pri rfl (p_pick rfl rfl rfl (by first | exact pick_and | exact pick_or |  rfl))) (prs_cons (pri rfl (p_assign rfl)) prs_nil)))))))))))))))) rfl rfl rfl ?_)
         refine r_cond rfl (fun h52 => ?_) (fun h52 => ?_)
         ·simp only [Bool.and_eq_true, decide_eq_true_eq] at h52; omega
         ·(try simp only [decide_eq_true_eq, decide_eq_false_iff_not, Bool.and_eq_true, Bool.or_eq_true, Bool.and_eq_false_iff, Bool.or_eq_false_iff, Bool.not_eq_true, Bool.not_eq_false, Bool.not_eq_true', Bool.not_eq_false', Bool.not_not, bne_iff_ne, beq_iff_eq] at h52)
          have q9 : ¬ (k = 9 ∧ e.c.me + 1 < e.F.length) := by rintro ⟨h1, h2⟩; omega
          refine r_region (r_p (p_move rfl) rfl (r_p (p_move rfl) rfl ?_))
          refine r_callN (xs := [.tmp 45, .const (.int .i64 4)]) (gx_own he 3 (by decide) vn (sb) (by rw [hnb]; exact hin)) cb49 [0] [(false, 0), (true, 1), (false, 2)] [0, 46] rfl rfl rfl rfl rfl (by rw [hnb]; rfl) rfl rfl (fun _ _ => rfl) (fun _ _ _ => rfl) rfl (fun ⟨t1, s2⟩ ht1 => ?_)
          dsimp only at ht1 ⊢
          refine r_bslice1 eTx t1 Tryz.underlying46 t48 rfl (by decide) (by decide) rfl rfl rfl rfl fun v47 => ?_
          refine r_p (p_build (parts := [(0, .const (.int .i64 7)), (2, .tmp 47)]) t53 pl53 rfl rfl) rfl ?_
          refine r_bslice1 eTy (yOut v47 t1) Tryz.underlying51 t53 rfl (by decide) (by decide) rfl rfl rfl rfl fun v49 => ?_
          refine r_append 60 Tryz.underlying51 t53 rfl (by decide) (fun _ => rfl) (fun _ => rfl) rfl rfl rfl (hs_own (k := 49) rfl) (by simp only [List.length_append, List.length_cons, List.length_nil]; omega) (by unfold maxLen; simp only [List.length_append, List.length_cons, List.length_nil]; omega) rfl fun v50 => ?_
          refine r_p (p_assign rfl) rfl (r_nil (r_region (r_p (p_move rfl) rfl ?_)))
          refine r_p (p_bin rfl rfl (b_add (by first | exact w_i64 (by omega) (by omega) | rfl))) rfl ?_
          refine r_p (p_assign rfl) rfl (r_nil ?_)
          have hg1 : G1r e.c (lev) k sa (erYs [yOut v47 t1]) (s2) := .out q2 q3 q4.1 q4.2 (fun h => q5 h) (fun h => q7 h) (.inr ⟨h8, j8, h80, hj8⟩) (fun h => q9 ⟨h.1, by rw [← hfl]; exact h.2⟩) ht1
          have hkp := hg1.inv hia
          refine r_collect 40 [40, 47, 46] (C := ysA (out ++ [yOut v47 t1])) rfl st1_all ?_
          refine r_here ⟨i + 1, v50, out ++ [yOut v47 t1], s2, vn⟩ ⟨⟨by dsimp only; omega, hkp.inv, by dsimp only; rw [List.length_append]; simp only [List.length_cons, List.length_nil]; omega, by dsimp only; rw [erYs_app]; exact gl_next hi2 hleft hk hg1 n4⟩, by dsimp only; omega⟩ rfl (by dsimp only; rw [show s2.names = sa.names from ht1.keep.1.trans (gN_st2 hj8).1]; rfl) rfl
       ·(try simp only [decide_eq_true_eq, decide_eq_false_iff_not, Bool.and_eq_true, Bool.or_eq_true, Bool.and_eq_false_iff, Bool.or_eq_false_iff, Bool.not_eq_true, Bool.not_eq_false, Bool.not_eq_true', Bool.not_eq_false', Bool.not_not, bne_iff_ne, beq_iff_eq] at h39)
        have h8 : ¬ k = 8 := h39
        refine r_gno rfl rfl rfl rfl ?_
        refine r_gno rfl rfl rfl rfl ?_
        refine r_gno rfl rfl rfl rfl ?_
        refine r_p (p_pick rfl rfl rfl (by first | exact pick_and | exact pick_or |  rfl)) rfl ?_
        refine r_p (p_assign rfl) rfl (r_nil ?_)
        refine r_cond rfl (fun h53 => ?_) (fun h53 => ?_)
        ·exact absurd h53 (by simp)
        ·(try simp only [decide_eq_true_eq, decide_eq_false_iff_not, Bool.and_eq_true, Bool.or_eq_true, Bool.and_eq_false_iff, Bool.or_eq_false_iff, Bool.not_eq_true, Bool.not_eq_false, Bool.not_eq_true', Bool.not_eq_false', Bool.not_not, bne_iff_ne, beq_iff_eq] at h53)
         refine r_seq ?_
         refine r_draw [265, 266, 267, 268, 269, 270, 271, 272, 273, 274, 275, 276, 277, 278, 279, 264] _ rfl (stg_end (V := [(0, 265, _), (1, 266, _), (2, 267, _), (3, 268, _), (4, 269, _), (5, 270, _), (6, 271, _), (7, 272, _), (8, 273, _), (9, 274, _), (10, 275, _), (11, 276, _), (12, 277, _), (13, 278, _), (14, 279, _), (15, 264, _)]) [0, 1, 2, 3, 4, 5, 6, 7, 8, 9, 10, 11, 12, 13, 14, 15] rfl rfl (prs_cons (pri rfl (p_move rfl)) (prs_cons (pri rfl (p_bin rfl rfl b_eq)) (prs_cons (pri rfl (p_move rfl)) (prs_cons (prig_s [] rfl rfl rfl trivial (fun hg54 => p_move rfl)) (prs_cons (prig_s [(268, _)] rfl rfl rfl ⟨rfl, trivial⟩ (fun hg55 => p_nilCheck rfl)) (prs_cons (prig_s [(269, _)] rfl rfl rfl ⟨rfl, trivial⟩ (fun hg56 => p_field0 fo76_6 rfl)) (prs_cons (prig_s [(270, _)] rfl rfl rfl ⟨rfl, trivial⟩ (fun hg57 => p_load1 t3 rfl rfl (g_row1 (k := 0) rfl rfl))) (prs_cons (prig_s [(271, _)] rfl rfl rfl ⟨rfl, trivial⟩ (fun hg58 => p_bin rfl rfl (b_add (by first | exact w_i64 (by omega) (by omega) | rfl)))) (prs_cons (prig_s [] rfl rfl rfl trivial (fun hg59 => p_move rfl)) (prs_cons (prig_s [(273, _)] rfl rfl rfl ⟨rfl, trivial⟩ (fun hg60 => p_nilCheck rfl)) (prs_cons (prig_s [(274, _)] rfl rfl rfl ⟨rfl, trivial⟩ (fun hg61 => p_field0 fo76_7 rfl)) (prs_cons (prig_s [(275, _)] rfl rfl rfl ⟨rfl, trivial⟩ (fun hg62 => p_load1 t27 rfl rfl (g_row1 (k := 0) rfl rfl))) (prs_cons (prig_s [(276, _)] rfl rfl rfl ⟨rfl, trivial⟩ (fun hg63 => p_len_sl Tryz.underlying27 rfl (hs_sl (k := 3) rfl))) (prs_cons (prig_s [(272, _), (277, _)] rfl rfl rfl ⟨rfl, rfl, trivial⟩ (fun hg64 => p_bin rfl rfl b_lt)) (prs_cons (pri rfl (p_pick rfl rfl rfl (by first | exact pick_and | exact pick_or |  rfl))) (prs_cons (pri rfl (p_assign rfl)) prs_nil)))))))))))))))) rfl rfl rfl ?_)
         refine r_cond rfl (fun h65 => ?_) (fun h65 => ?_)
         ·(try simp only [decide_eq_true_eq, decide_eq_false_iff_not, Bool.and_eq_true, Bool.or_eq_true, Bool.and_eq_false_iff, Bool.or_eq_false_iff, Bool.not_eq_true, Bool.not_eq_false, Bool.not_eq_true', Bool.not_eq_false', Bool.not_not, bne_iff_ne, beq_iff_eq] at h65)
          have h9 : k = 9 ∧ e.c.me + 1 < e.F.length := ⟨h65.1, by have := h65.2; omega⟩
          have hjb := gN_bnd e.c.l (n := (e.F.length : Int) - (e.c.me : Int) - 1) (by omega) sa
          obtain ⟨jf, hjf⟩ : ∃ jf : Nat, (e.c.me : Int) + 1 + (gN e.c.l ((e.F.length : Int) - (e.c.me : Int) - 1) sa).1 = (jf : Int) := ⟨((e.c.me : Int) + 1 + (gN e.c.l ((e.F.length : Int) - (e.c.me : Int) - 1) sa).1).toNat, by omega⟩
          have hjl : jf < e.F.length := by omega
          obtain ⟨f, hfj⟩ : ∃ f, e.F[jf]? = some f := ⟨_, List.getElem?_eq_getElem hjl⟩
          refine r_seq_cut (X := Tf × Gs × Nat) (fun y => y.1 ∈ e.F ∧ ∃ j, gN e.c.l ((e.F.length : Int) - (e.c.me : Int) - 1) sa = (j, y.2.1) ∧ e.c.fs[((e.c.me : Int) + 1 + j).toNat]? = some (y.1.name, y.1.ps)) (fun y => [(0, .pointer (some ⟨e.g, 0, none⟩)), (1, .int .i64 (4 - (lev : Int))), (5, sv vo), (6, .int .i64 (many : Int)), (7, .int .i64 (i : Int)), (18, .pointer (some ⟨y.2.2, 0, none⟩))]) (fun y => [(0, row e.g 76 (gRow e.vl (y.2.1) vn e.c.me e.vf)), (1, own 9 1 eS (sv vn) sa.names), (60, own 53 5 eTy (sv vo) out), (40, ysA out), (18, row y.2.2 63 (eTf y.1))]) (fun y => [(0, sl 1 eI (sv e.vl) e.c.l), (2, tfsA e.vf e.F), (3, sl 3 eTf (sv e.vf) e.F)]) ?_ (fun y hy => ?_)
          ·refine r_draw [280, 281, 282, 283, 284, 285, 286, 287, 288, 289, 290, 291, 292, 293, 294, 295, 296, 297, 298, 299, 300, 301, 302, 303, 304, 18] _ rfl (stg_alts (V := [(0, 280, _), (1, 281, _), (2, 282, _), (3, 283, _), (4, 284, _), (5, 285, _), (6, 286, _), (7, 287, _), (8, 288, _), (9, 289, _), (10, 290, _), (11, 291, _), (12, 292, _), (13, 293, _), (14, 294, _), (15, 295, _), (16, 296, _), (17, 297, _), (18, 298, _), (19, 299, _), (20, 300, _)]) [0, 1, 2, 3, 4, 5, 6, 7, 8, 9, 10, 11, 12, 13, 14, 15, 16, 17, 18, 19, 20] rfl rfl (prs_cons (pri rfl (p_move rfl)) (prs_cons (pri rfl (p_nilCheck rfl)) (prs_cons (pri rfl (p_field0 fo76_7 rfl)) (prs_cons (pri rfl (p_load1 t27 rfl rfl (g_row1 (k := 0) rfl rfl))) (prs_cons (pri rfl (p_move rfl)) (prs_cons (pri rfl (p_nilCheck rfl)) (prs_cons (pri rfl (p_field0 fo76_6 rfl)) (prs_cons (pri rfl (p_load1 t3 rfl rfl (g_row1 (k := 0) rfl rfl))) (prs_cons (pri rfl (p_bin rfl rfl (b_add (by first | exact w_i64 (by omega) (by omega) | rfl)))) (prs_cons (pri rfl (p_move rfl)) (prs_cons (pri rfl (p_move rfl)) (prs_cons (pri rfl (p_nilCheck rfl)) (prs_cons (pri rfl (p_field0 fo76_7 rfl)) (prs_cons (pri rfl (p_load1 t27 rfl rfl (g_row1 (k := 0) rfl rfl))) (prs_cons (pri rfl (p_len_sl Tryz.underlying27 rfl (hs_sl (k := 3) rfl))) (prs_cons (pri rfl (p_move rfl)) (prs_cons (pri rfl (p_nilCheck rfl)) (prs_cons (pri rfl (p_field0 fo76_6 rfl)) (prs_cons (pri rfl (p_load1 t3 rfl rfl (g_row1 (k := 0) rfl rfl))) (prs_cons (pri rfl (p_bin rfl rfl (b_sub (by first | exact w_i64 (by omega) (by omega) | rfl)))) (prs_cons (pri rfl (p_bin rfl rfl (b_sub (by first | exact w_i64 (by omega) (by omega) | rfl)))) prs_nil))))))))))))))))))))) rfl [21, 25] rfl rfl (nx_cons (nx_mem 21 [21, 20, 19, 18, 17, 16, 15, 14, 13, 12, 11, 10, 9] [22, 23, 24] (fun _ => [(22, 302, _), (23, 303, _), (24, 304, _)]) rfl rfl rfl rfl rfl rfl rfl rfl rfl (fun _ _ => rfl) rfl (ms_callN (xs := [.tmp 289, .tmp 300]) (gnext_spec e.g e.vl vn e.vf e.c he.hl he.hlo (((e.F.length : Int) - (e.c.me : Int) - 1)) (by omega) (sa)) cb31 [0] [(false, 0)] [0] rfl rfl rfl rfl rfl rfl rfl rfl (fun _ _ => rfl) (fun _ _ _ => rfl)) (fun _ _ => stg_mem [22, 23, 24, 0, 1, 2, 3, 4, 5, 6, 7, 8] 25 [25, 21, 20, 19, 18, 17, 16, 15, 14, 13, 12, 11, 10, 9] [] (fun b18 => []) rfl rfl (prs_cons (pri rfl (p_bin rfl rfl (b_add (by first | exact w_i64 (by omega) (by omega) | rfl)))) (prs_cons (pri rfl (p_idx_sl (j := jf) Tryz.underlying27 t63 rfl rfl (hs_sl (k := 3) rfl) hjf hjl)) (prs_cons (pri rfl (p_loadA t63 rfl rfl rfl (g_el' (hs_sl (k := 3) rfl) (by intro _; rfl) hfj (by rfl)))) (prs_cons (pri rfl (p_move rfl)) (prs_cons (pri rfl (p_nilCheck rfl)) (prs_cons (pri rfl (p_field0 fo76_7 rfl)) (prs_cons (pri rfl (p_load1 t27 rfl rfl (g_row1 (k := 0) rfl rfl))) (prs_cons (pri rfl (p_move rfl)) (prs_cons (pri rfl (p_nilCheck rfl)) (prs_cons (pri rfl (p_field0 fo76_6 rfl)) (prs_cons (pri rfl (p_load1 t3 rfl rfl (g_row1 (k := 0) rfl rfl))) (prs_cons (pri rfl (p_bin rfl rfl (b_add (by first | exact w_i64 (by omega) (by omega) | rfl)))) prs_nil)))))))))))) rfl rfl rfl rfl rfl rfl rfl rfl rfl rfl rfl (fun _ _ => rfl) rfl (ms_alloc t63 rfl) (fun b18 _ => stg_mem0 [22, 23, 24, 0, 1, 2, 3, 4, 5, 6, 7, 8] 26 [26, 25, 24, 23, 22, 21, 20, 19, 18, 17, 16, 15, 14, 13, 12, 11, 10, 9, 8, 7, 6, 5, 4, 3, 2, 1, 0] [] (fun _ => []) rfl rfl (prs_cons (pri rfl (p_bin rfl rfl (b_add (by first | exact w_i64 (by omega) (by omega) | rfl)))) (prs_cons (pri rfl (p_idx_sl (j := jf) Tryz.underlying27 t63 rfl rfl (hs_sl (k := 3) rfl) hjf hjl)) (prs_cons (pri rfl (p_loadA t63 rfl rfl rfl (g_el' (hs_sl (k := 3) rfl) (by intro _; rfl) hfj (by rfl)))) (prs_cons (pri rfl (p_move rfl)) (prs_cons (pri rfl (p_nilCheck rfl)) (prs_cons (pri rfl (p_field0 fo76_7 rfl)) (prs_cons (pri rfl (p_load1 t27 rfl rfl (g_row1 (k := 0) rfl rfl))) (prs_cons (pri rfl (p_move rfl)) (prs_cons (pri rfl (p_nilCheck rfl)) (prs_cons (pri rfl (p_field0 fo76_6 rfl)) (prs_cons (pri rfl (p_load1 t3 rfl rfl (g_row1 (k := 0) rfl rfl))) (prs_cons (pri rfl (p_bin rfl rfl (b_add (by first | exact w_i64 (by omega) (by omega) | rfl)))) prs_nil)))))))))))) rfl rfl rfl rfl rfl rfl rfl rfl rfl (fun _ _ => rfl) rfl (ms_store_all (k := 18) t63 rfl rfl rfl rfl rfl rfl) (fun _ _ => stg_end [] rfl rfl prs_nil rfl rfl rfl ?_)))) (nx_cons (nx_mem 25 [25] [] (fun b18 => []) rfl rfl rfl rfl rfl rfl rfl rfl rfl (fun _ _ => rfl) rfl (ms_alloc t63 rfl) (fun b18 _ => stg_mem [0, 1, 2, 3, 4, 5, 6, 7, 8, 9, 10, 11, 12, 13, 14, 15, 16, 17, 18, 19, 20] 21 [25, 21, 20, 19, 18, 17, 16, 15, 14, 13, 12, 11, 10, 9] [22, 23, 24] (fun _ => [(22, 302, _), (23, 303, _), (24, 304, _)]) rfl rfl (prs_cons (pri rfl (p_move rfl)) (prs_cons (pri rfl (p_nilCheck rfl)) (prs_cons (pri rfl (p_field0 fo76_7 rfl)) (prs_cons (pri rfl (p_load1 t27 rfl rfl (g_row1 (k := 0) rfl rfl))) (prs_cons (pri rfl (p_move rfl)) (prs_cons (pri rfl (p_nilCheck rfl)) (prs_cons (pri rfl (p_field0 fo76_6 rfl)) (prs_cons (pri rfl (p_load1 t3 rfl rfl (g_row1 (k := 0) rfl rfl))) (prs_cons (pri rfl (p_bin rfl rfl (b_add (by first | exact w_i64 (by omega) (by omega) | rfl)))) (prs_cons (pri rfl (p_move rfl)) (prs_cons (pri rfl (p_move rfl)) (prs_cons (pri rfl (p_nilCheck rfl)) (prs_cons (pri rfl (p_field0 fo76_7 rfl)) (prs_cons (pri rfl (p_load1 t27 rfl rfl (g_row1 (k := 0) rfl rfl))) (prs_cons (pri rfl (p_len_sl Tryz.underlying27 rfl (hs_sl (k := 3) rfl))) (prs_cons (pri rfl (p_move rfl)) (prs_cons (pri rfl (p_nilCheck rfl)) (prs_cons (pri rfl (p_field0 fo76_6 rfl)) (prs_cons (pri rfl (p_load1 t3 rfl rfl (g_row1 (k := 0) rfl rfl))) (prs_cons (pri rfl (p_bin rfl rfl (b_sub (by first | exact w_i64 (by omega) (by omega) | rfl)))) (prs_cons (pri rfl (p_bin rfl rfl (b_sub (by first | exact w_i64 (by omega) (by omega) | rfl)))) prs_nil))))))))))))))))))))) rfl rfl rfl rfl rfl rfl rfl rfl rfl rfl rfl (fun _ _ => rfl) rfl (ms_callN (xs := [.tmp 289, .tmp 300]) (gnext_spec e.g e.vl vn e.vf e.c he.hl he.hlo (((e.F.length : Int) - (e.c.me : Int) - 1)) (by omega) (sa)) cb31 [0] [(false, 0)] [0] rfl rfl rfl rfl rfl rfl rfl rfl (fun _ _ => rfl) (fun _ _ _ => rfl)) (fun _ _ => stg_mem0 [22, 23, 24, 0, 1, 2, 3, 4, 5, 6, 7, 8] 26 [26, 25, 24, 23, 22, 21, 20, 19, 18, 17, 16, 15, 14, 13, 12, 11, 10, 9, 8, 7, 6, 5, 4, 3, 2, 1, 0] [] (fun _ => []) rfl rfl (prs_cons (pri rfl (p_bin rfl rfl (b_add (by first | exact w_i64 (by omega) (by omega) | rfl)))) (prs_cons (pri rfl (p_idx_sl (j := jf) Tryz.underlying27 t63 rfl rfl (hs_sl (k := 3) rfl) hjf hjl)) (prs_cons (pri rfl (p_loadA t63 rfl rfl rfl (g_el' (hs_sl (k := 3) rfl) (by intro _; rfl) hfj (by rfl)))) (prs_cons (pri rfl (p_move rfl)) (prs_cons (pri rfl (p_nilCheck rfl)) (prs_cons (pri rfl (p_field0 fo76_7 rfl)) (prs_cons (pri rfl (p_load1 t27 rfl rfl (g_row1 (k := 0) rfl rfl))) (prs_cons (pri rfl (p_move rfl)) (prs_cons (pri rfl (p_nilCheck rfl)) (prs_cons (pri rfl (p_field0 fo76_6 rfl)) (prs_cons (pri rfl (p_load1 t3 rfl rfl (g_row1 (k := 0) rfl rfl))) (prs_cons (pri rfl (p_bin rfl rfl (b_add (by first | exact w_i64 (by omega) (by omega) | rfl)))) prs_nil)))))))))))) rfl rfl rfl rfl rfl rfl rfl rfl rfl (fun _ _ => rfl) rfl (ms_store_all (k := 18) t63 rfl rfl rfl rfl rfl rfl) (fun _ _ => stg_end [] rfl rfl prs_nil rfl rfl rfl ?_)))) nx_nil)))
           ·refine r_here (f, (gN e.c.l ((e.F.length : Int) - (e.c.me : Int) - 1) sa).2, b18) ⟨List.mem_of_getElem? hfj, (gN e.c.l ((e.F.length : Int) - (e.c.me : Int) - 1) sa).1, rfl, by rw [he.fs, List.getElem?_map, show ((e.c.me : Int) + 1 + (gN e.c.l ((e.F.length : Int) - (e.c.me : Int) - 1) sa).1).toNat = jf by omega, hfj]; rfl⟩ rfl rfl rfl
           ·refine r_here (f, (gN e.c.l ((e.F.length : Int) - (e.c.me : Int) - 1) sa).2, b18) ⟨List.mem_of_getElem? hfj, (gN e.c.l ((e.F.length : Int) - (e.c.me : Int) - 1) sa).1, rfl, by rw [he.fs, List.getElem?_map, show ((e.c.me : Int) + 1 + (gN e.c.l ((e.F.length : Int) - (e.c.me : Int) - 1) sa).1).toNat = jf by omega, hfj]; rfl⟩ rfl rfl rfl
          ·obtain ⟨f2, s2b, b18⟩ := y
           obtain ⟨hfm, jn, hjn, hfx⟩ := hy
           dsimp only at hfm hjn hfx ⊢
           obtain ⟨j10, s3b, hj10⟩ : ∃ a b, gN e.c.l 8 s2b = (a, b) := ⟨_, _, rfl⟩
           have hn3 : s3b.names = sa.names := (gN_st2 hj10).1.trans (gN_st2 hjn).1
           refine r_seq_cut (X := Tf × Gs) (fun y => y.1 ∈ e.F ∧ y.2.names = sa.names ∧ ((j10 ≠ 7 ∧ e.c.fs[((e.c.me : Int) + 1 + jn).toNat]? = some (y.1.name, y.1.ps) ∧ y.2 = s3b) ∨ (j10 = 7 ∧ ∃ j3, gN e.c.l ((e.c.fs.length : Int) - 1) s3b = (j3, y.2) ∧ e.c.fs[(1 + j3).toNat]? = some (y.1.name, y.1.ps)))) (fun y => [(0, .pointer (some ⟨e.g, 0, none⟩)), (1, .int .i64 (4 - (lev : Int))), (5, sv vo), (6, .int .i64 (many : Int)), (7, .int .i64 (i : Int)), (18, .pointer (some ⟨b18, 0, none⟩))]) (fun y => [(0, row e.g 76 (gRow e.vl (y.2) vn e.c.me e.vf)), (1, own 9 1 eS (sv vn) sa.names), (60, own 53 5 eTy (sv vo) out), (40, ysA out), (18, row b18 63 (eTf y.1))]) (fun y => [(0, sl 1 eI (sv e.vl) e.c.l), (2, tfsA e.vf e.F), (3, sl 3 eTf (sv e.vf) e.F)]) ?_ (fun y hy => ?_)
           ·refine r_seq (r_region (r_p (p_move rfl) rfl ?_))
            refine r_callN (xs := [.tmp 305, .const (.int .i64 8)]) (gnext_spec e.g e.vl vn e.vf e.c he.hl he.hlo (8) (by decide) (s2b)) cb31 [0] [(false, 0)] [0] rfl rfl rfl rfl rfl rfl rfl rfl (fun _ _ => rfl) (fun _ _ _ => rfl) rfl (fun _ _ => ?_)
            rw [hj10]
            dsimp only
            refine r_p (p_bin rfl rfl b_eq) rfl ?_
            refine r_nil ?_
            refine r_cond rfl (fun h66 => ?_) (fun h66 => ?_)
            ·(try simp only [decide_eq_true_eq, decide_eq_false_iff_not, Bool.and_eq_true, Bool.or_eq_true, Bool.and_eq_false_iff, Bool.or_eq_false_iff, Bool.not_eq_true, Bool.not_eq_false, Bool.not_eq_true', Bool.not_eq_false', Bool.not_not, bne_iff_ne, beq_iff_eq] at h66)
             have h10 : j10 = 7 := h66
             have hjb3 := gN_bnd e.c.l (n := (e.F.length : Int) - 1) (by omega) s3b
             obtain ⟨jg, hjg⟩ : ∃ jg : Nat, (1 : Int) + (gN e.c.l ((e.F.length : Int) - 1) s3b).1 = (jg : Int) := ⟨((1 : Int) + (gN e.c.l ((e.F.length : Int) - 1) s3b).1).toNat, by omega⟩
             have hjgl : jg < e.F.length := by omega
             obtain ⟨f5, hgj⟩ : ∃ f, e.F[jg]? = some f := ⟨_, List.getElem?_eq_getElem hjgl⟩
             refine r_draw [308, 309, 310, 311, 312, 313, 314, 315, 316, 317, 318, 319, 320, 321, 322] _ rfl (stg_mem (V := [(0, 308, _), (1, 309, _), (2, 310, _), (3, 311, _), (4, 312, _), (5, 313, _), (6, 314, _), (7, 315, _), (8, 316, _), (9, 317, _), (10, 318, _)]) [0, 1, 2, 3, 4, 5, 6, 7, 8, 9, 10] 11 [11, 10, 9, 8, 7, 6, 5, 4] [12, 13, 14] (fun _ => [(12, 320, _), (13, 321, _), (14, 322, _)]) rfl rfl (prs_cons (pri rfl (p_move rfl)) (prs_cons (pri rfl (p_nilCheck rfl)) (prs_cons (pri rfl (p_field0 fo76_7 rfl)) (prs_cons (pri rfl (p_load1 t27 rfl rfl (g_row1 (k := 0) rfl rfl))) (prs_cons (pri rfl (p_move rfl)) (prs_cons (pri rfl (p_move rfl)) (prs_cons (pri rfl (p_nilCheck rfl)) (prs_cons (pri rfl (p_field0 fo76_7 rfl)) (prs_cons (pri rfl (p_load1 t27 rfl rfl (g_row1 (k := 0) rfl rfl))) (prs_cons (pri rfl (p_len_sl Tryz.underlying27 rfl (hs_sl (k := 3) rfl))) (prs_cons (pri rfl (p_bin rfl rfl (b_sub (by first | exact w_i64 (by omega) (by omega) | rfl)))) prs_nil))))))))))) rfl rfl rfl rfl rfl rfl rfl rfl rfl rfl rfl (fun _ _ => rfl) rfl (ms_callN (xs := [.tmp 312, .tmp 318]) (gnext_spec e.g e.vl vn e.vf e.c he.hl he.hlo (((e.F.length : Int) - 1)) (by omega) (s3b)) cb31 [0] [(false, 0)] [0] rfl rfl rfl rfl rfl rfl rfl rfl (fun _ _ => rfl) (fun _ _ _ => rfl)) (fun _ _ => stg_mem0 [12, 13, 14, 0, 1, 2, 3] 15 [15, 14, 13, 12, 11, 10, 9, 8, 7, 6, 5, 4, 3, 2, 1, 0] [] (fun _ => []) rfl rfl (prs_cons (pri rfl (p_bin rfl rfl (b_add (by first | exact w_i64 (by omega) (by omega) | rfl)))) (prs_cons (pri rfl (p_idx_sl (j := jg) Tryz.underlying27 t63 rfl rfl (hs_sl (k := 3) rfl) hjg hjgl)) (prs_cons (pri rfl (p_loadA t63 rfl rfl rfl (g_el' (hs_sl (k := 3) rfl) (by intro _; rfl) hgj (by rfl)))) (prs_cons (pri rfl (p_move rfl)) (prs_cons (pri rfl (p_nilCheck rfl)) (prs_cons (pri rfl (p_field0 fo76_7 rfl)) (prs_cons (pri rfl (p_load1 t27 rfl rfl (g_row1 (k := 0) rfl rfl))) prs_nil))))))) rfl rfl rfl rfl rfl rfl rfl rfl rfl (fun _ _ => rfl) rfl (ms_store_all (k := 18) t63 rfl rfl rfl rfl rfl rfl) (fun _ _ => stg_end [] rfl rfl prs_nil rfl rfl rfl ?_)))
             refine r_here (f5, (gN e.c.l ((e.F.length : Int) - 1) s3b).2) ⟨List.mem_of_getElem? hgj, (gN_keep _ _ _).1.trans hn3, .inr ⟨h10, (gN e.c.l ((e.F.length : Int) - 1) s3b).1, by rw [hfl], by rw [he.fs, List.getElem?_map, show ((1 : Int) + (gN e.c.l ((e.F.length : Int) - 1) s3b).1).toNat = jg by omega, hgj]; rfl⟩⟩ rfl rfl rfl
            ·(try simp only [decide_eq_true_eq, decide_eq_false_iff_not, Bool.and_eq_true, Bool.or_eq_true, Bool.and_eq_false_iff, Bool.or_eq_false_iff, Bool.not_eq_true, Bool.not_eq_false, Bool.not_eq_true', Bool.not_eq_false', Bool.not_not, bne_iff_ne, beq_iff_eq] at h66)
             have h10 : j10 ≠ 7 := h66
             refine r_skip ?_
             refine r_here (f2, s3b) ⟨hfm, hn3, .inl ⟨h10, hfx, rfl⟩⟩ rfl rfl rfl
           ·obtain ⟨f4, s4b⟩ := y
            obtain ⟨hf4, hn4, hff⟩ := hy
            dsimp only at hf4 hn4 hff ⊢
            refine r_region (r_p (p_move rfl) rfl (r_p (p_move rfl) rfl ?_))
            refine r_p (p_loadA t63 rfl rfl rfl (g_all (k := 18) rfl)) rfl ?_
            refine r_callN (xs := [.tmp 324, .tmp 325, .const (.int .i64 3)]) (gc_own he 1 (by decide) vn s4b f4 hf4 (by rw [hn4]; exact hin)) cb50 [0] [(false, 0), (true, 1), (false, 2)] [0, 326] rfl rfl rfl rfl rfl (by rw [hn4]; rfl) rfl rfl (fun _ _ => rfl) (fun _ _ _ => rfl) rfl (fun ⟨t1, s5⟩ ht1 => ?_)
            dsimp only at ht1 ⊢
            refine r_bslice1 eTx t1 Tryz.underlying46 t48 rfl (by decide) (by decide) rfl rfl rfl rfl fun v327 => ?_
            refine r_p (p_build (parts := [(0, .const (.int .i64 8)), (2, .tmp 327)]) t53 pl53 rfl rfl) rfl ?_
            refine r_bslice1 eTy (.mk 8 oNil v327 [t1] nilS [] nilS []) Tryz.underlying51 t53 rfl (by decide) (by decide) rfl rfl rfl rfl fun v329 => ?_
            refine r_append 60 Tryz.underlying51 t53 rfl (by decide) (fun _ => rfl) (fun _ => rfl) rfl rfl rfl (hs_own (k := 329) rfl) (by simp only [List.length_append, List.length_cons, List.length_nil]; omega) (by unfold maxLen; simp only [List.length_append, List.length_cons, List.length_nil]; omega) rfl fun v330 => ?_
            refine r_p (p_assign rfl) rfl (r_nil (r_region (r_p (p_move rfl) rfl ?_)))
            refine r_p (p_bin rfl rfl (b_add (by first | exact w_i64 (by omega) (by omega) | rfl))) rfl ?_
            refine r_p (p_assign rfl) rfl (r_nil ?_)
            have hg1 : G1r e.c (lev) k sa (erYs [.mk 8 oNil v327 [t1] nilS [] nilS []]) (s5) := h9.1 ▸ .dos (by rw [hfl]; exact h9.2) (by rw [hfl]; exact hjn) hj10 hff ht1
            have hkp := hg1.inv hia
            refine r_collect 40 [40, 327, 326] (C := ysA (out ++ [.mk 8 oNil v327 [t1] nilS [] nilS []])) rfl st1_all ?_
            refine r_here ⟨i + 1, v330, out ++ [.mk 8 oNil v327 [t1] nilS [] nilS []], s5, vn⟩ ⟨⟨by dsimp only; omega, hkp.inv, by dsimp only; rw [List.length_append]; simp only [List.length_cons, List.length_nil]; omega, by dsimp only; rw [erYs_app]; exact gl_next hi2 hleft hk hg1 n4⟩, by dsimp only; omega⟩ rfl (by dsimp only; rw [show s5.names = sa.names from ht1.keep.1.trans hn4]; rfl) rfl
         ·(try simp only [decide_eq_true_eq, decide_eq_false_iff_not, Bool.and_eq_true, Bool.or_eq_true, Bool.and_eq_false_iff, Bool.or_eq_false_iff, Bool.not_eq_true, Bool.not_eq_false, Bool.not_eq_true', Bool.not_eq_false', Bool.not_not, bne_iff_ne, beq_iff_eq] at h65)
          have q9 : ¬ (k = 9 ∧ e.c.me + 1 < e.F.length) := by rintro ⟨h1, h2⟩; rcases h65 with h | h; exact h h1; omega
          refine r_region (r_p (p_move rfl) rfl (r_p (p_move rfl) rfl ?_))
          refine r_callN (xs := [.tmp 45, .const (.int .i64 4)]) (gx_own he 3 (by decide) vn sa hin) cb49 [0] [(false, 0), (true, 1), (false, 2)] [0, 46] rfl rfl rfl rfl rfl rfl rfl rfl (fun _ _ => rfl) (fun _ _ _ => rfl) rfl (fun ⟨t1, s2⟩ ht1 => ?_)
          dsimp only at ht1 ⊢
          refine r_bslice1 eTx t1 Tryz.underlying46 t48 rfl (by decide) (by decide) rfl rfl rfl rfl fun v47 => ?_
          refine r_p (p_build (parts := [(0, .const (.int .i64 7)), (2, .tmp 47)]) t53 pl53 rfl rfl) rfl ?_
          refine r_bslice1 eTy (yOut v47 t1) Tryz.underlying51 t53 rfl (by decide) (by decide) rfl rfl rfl rfl fun v49 => ?_
          refine r_append 60 Tryz.underlying51 t53 rfl (by decide) (fun _ => rfl) (fun _ => rfl) rfl rfl rfl (hs_own (k := 49) rfl) (by simp only [List.length_append, List.length_cons, List.length_nil]; omega) (by unfold maxLen; simp only [List.length_append, List.length_cons, List.length_nil]; omega) rfl fun v50 => ?_
          refine r_p (p_assign rfl) rfl (r_nil (r_region (r_p (p_move rfl) rfl ?_)))
          refine r_p (p_bin rfl rfl (b_add (by first | exact w_i64 (by omega) (by omega) | rfl))) rfl ?_
          refine r_p (p_assign rfl) rfl (r_nil ?_)
          have hg1 : G1r e.c (lev) k sa (erYs [yOut v47 t1]) (s2) := .out q2 q3 q4.1 q4.2 (fun h => q5 h) (fun h => q7 h) (.inl ⟨h8, rfl⟩) (fun h => q9 ⟨h.1, by rw [← hfl]; exact h.2⟩) ht1
          have hkp := hg1.inv hia
          refine r_collect 40 [40, 47, 46] (C := ysA (out ++ [yOut v47 t1])) rfl st1_all ?_
          refine r_here ⟨i + 1, v50, out ++ [yOut v47 t1], s2, vn⟩ ⟨⟨by dsimp only; omega, hkp.inv, by dsimp only; rw [List.length_append]; simp only [List.length_cons, List.length_nil]; omega, by dsimp only; rw [erYs_app]; exact gl_next hi2 hleft hk hg1 n4⟩, by dsimp only; omega⟩ rfl (by dsimp only; rw [show s2.names = sa.names from ht1.keep.1]; rfl) rfl
 ·(try simp only [decide_eq_true_eq, decide_eq_false_iff_not, Bool.and_eq_true, Bool.or_eq_true, Bool.and_eq_false_iff, Bool.or_eq_false_iff, Bool.not_eq_true, Bool.not_eq_false, Bool.not_eq_true', Bool.not_eq_false', Bool.not_not, bne_iff_ne, beq_iff_eq] at h6)
  have hend : GLr e.c lev (many - i) s [] s := by
   by_cases hh : i < many
   ·refine .stop ?_
    rcases h6 with h | h
    ·omega
    ·omega
   ·rw [show many - i = 0 by omega]; exact .zero
  have hfin := n4 _ _ hend
  rw [List.append_nil] at hfin
  refine r_exit (r_seq (r_region (r_p (p_move rfl) rfl (r_p (p_assign rfl) rfl (r_nil (r_cret ?_))))))
  refine r_ret (vo, out, s, vn) ⟨.mk hj0 (by rw [hmany]; exact hfin), by dsimp only; omega⟩ rfl (rs1 (rv_tmp rfl)) rfl [0, 1, 60, 40] [] rfl rfl rfl
theorem hgy_all {e : Ge} (he : Gfine e) : ∀ lev, lev ≤ 3 → HGY e lev
 | 0, h => fun s vn hi => gstmts_step e he 0 h (fun k hk => by omega) s vn hi
 | lev + 1, h => fun s vn hi => gstmts_step e he (lev + 1) h (fun k hk => (show lev = k by omega) ▸ hgy_all he lev (by omega)) s vn hi
theorem erX_mk {t : Tx} {k n : Int} {nm : ByteArray} {ps : List Px} (h : erX t = .mk k n nm ps) : ∃ v kids, t = .mk k n nm v kids ∧ erXs kids = ps := by
 cases t with
 | mk k2 n2 nm2 v kids =>
  rw [erX] at h
  injection h with h1 h2 h3 h4
  subst h1; subst h2; subst h3
  exact ⟨v, kids, rfl, h4⟩
theorem erXs_nil {ts : List Tx} (h : erXs ts = []) : ts = [] := by
 cases ts with
 | nil => rfl
 | cons t r => rw [erXs] at h; cases h
theorem erXs_cons {ts : List Tx} {p : Px} {ps : List Px} (h : erXs ts = p :: ps) : ∃ t r, ts = t :: r ∧ erX t = p ∧ erXs r = ps := by
 cases ts with
 | nil => rw [erXs] at h; cases h
 | cons t r => rw [erXs] at h; injection h with h1 h2; exact ⟨t, r, rfl, h1, h2⟩
theorem erXs_one {ts : List Tx} {p : Px} (h : erXs ts = [p]) : ∃ t, ts = [t] ∧ erX t = p := by
 obtain ⟨t, r, rfl, h1, h2⟩ := erXs_cons h
 rw [erXs_nil h2]
 exact ⟨t, rfl, h1⟩
theorem erXs_two {ts : List Tx} {p q : Px} (h : erXs ts = [p, q]) : ∃ t u, ts = [t, u] ∧ erX t = p ∧ erX u = q := by
 obtain ⟨t, r, rfl, h1, h2⟩ := erXs_cons h
 obtain ⟨u, rfl, h3⟩ := erXs_one h2
 exact ⟨t, u, rfl, h1, h3⟩
theorem erY_mk {t : Ty} {k : Int} {nm : ByteArray} {es : List Px} {bs ls : List Py} (h : erY t = .mk k nm es bs ls) : ∃ v xs vb b vl l, t = .mk k nm v xs vb b vl l ∧ erXs xs = es ∧ erYs b = bs ∧ erYs l = ls := by
 cases t with
 | mk k2 nm2 v xs vb b vl l =>
  rw [erY] at h
  injection h with h1 h2 h3 h4 h5
  subst h1; subst h2
  exact ⟨v, xs, vb, b, vl, l, rfl, h3, h4, h5⟩
theorem erYs_nil {ts : List Ty} (h : erYs ts = []) : ts = [] := by
 cases ts with
 | nil => rfl
 | cons t r => rw [erYs] at h; cases h
theorem erYs_cons {ts : List Ty} {p : Py} {ps : List Py} (h : erYs ts = p :: ps) : ∃ t r, ts = t :: r ∧ erY t = p ∧ erYs r = ps := by
 cases ts with
 | nil => rw [erYs] at h; cases h
 | cons t r => rw [erYs] at h; injection h with h1 h2; exact ⟨t, r, rfl, h1, h2⟩
theorem erYs_one {ts : List Ty} {p : Py} (h : erYs ts = [p]) : ∃ t, ts = [t] ∧ erY t = p := by
 obtain ⟨t, r, rfl, h1, h2⟩ := erYs_cons h
 rw [erYs_nil h2]
 exact ⟨t, rfl, h1⟩
theorem erYs_split : ∀ {a : List Py} {b : List Py} {ts : List Ty}, erYs ts = a ++ b → ∃ u v, ts = u ++ v ∧ erYs u = a ∧ erYs v = b
 | [], b, ts, h => ⟨[], ts, rfl, by rw [erYs], h⟩
 | x :: a, b, ts, h => by
  obtain ⟨t, r, rfl, h1, h2⟩ := erYs_cons h
  obtain ⟨u, v, rfl, h3, h4⟩ := erYs_split h2
  exact ⟨t :: u, v, rfl, by rw [erYs, h1, h3], h4⟩
theorem GYs_app : ∀ {a b : List Ty}, GYs a → GYs b → GYs (a ++ b)
 | [], _, _, hb => hb
 | _ :: _, _, ha, hb => ⟨ha.1, GYs_app ha.2 hb⟩
theorem leaf_gx {k n : Int} {nm : ByteArray} {v : SV} (d : Nat) (hn : oW n) (hm : nmB nm) : GX (.mk k n nm v []) ∧ nX (.mk k n nm v []) ≤ 5 ^ (d + 1) :=
 ⟨⟨hn, hm, Nat.zero_le _, trivial⟩, by rw [nX, nXs]; exact Nat.one_le_pow _ _ (by decide)⟩
theorem pow5 (d : Nat) : 5 ^ (d + 1 + 1) = 5 * 5 ^ (d + 1) ∧ 5 ≤ 5 ^ (d + 1) := by
 have h1 : 1 ≤ 5 ^ d := Nat.one_le_pow _ _ (by decide)
 have h2 : 5 ^ (d + 1) = 5 ^ d * 5 := Nat.pow_succ ..
 have h3 : 5 ^ (d + 1 + 1) = 5 ^ (d + 1) * 5 := Nat.pow_succ ..
 omega
theorem one_gx {k n : Int} {nm : ByteArray} {v : SV} {d : Nat} {t : Tx} (hn : oW n) (hm : nmB nm) (h : GX t ∧ nX t ≤ 5 ^ (d + 1)) : GX (.mk k n nm v [t]) ∧ nX (.mk k n nm v [t]) ≤ 5 ^ (d + 1 + 1) :=
 ⟨⟨hn, hm, by show 1 ≤ 1000000; decide, h.1, trivial⟩, by rw [nX, nXs, nXs]; have := pow5 d; have := h.2; omega⟩
theorem two_gx {k n : Int} {nm : ByteArray} {v : SV} {d : Nat} {t u : Tx} (hn : oW n) (hm : nmB nm) (h : GX t ∧ nX t ≤ 5 ^ (d + 1)) (h2 : GX u ∧ nX u ≤ 5 ^ (d + 1)) : GX (.mk k n nm v [t, u]) ∧ nX (.mk k n nm v [t, u]) ≤ 5 ^ (d + 1 + 1) :=
 ⟨⟨hn, hm, by show 2 ≤ 1000000; decide, h.1, h2.1, trivial⟩, by rw [nX, nXs, nXs, nXs]; have := pow5 d; have := h.2; have := h2.2; omega⟩
theorem cL_oW {x : Int} {j : Nat} (h : cL[j]? = some x) : oW x := by
 have h1 := List.mem_of_getElem? h
 simp only [cL, List.mem_cons, List.not_mem_nil, or_false] at h1
 rcases h1 with rfl | rfl | rfl | rfl | rfl | rfl | rfl | rfl | rfl | rfl | rfl | rfl | rfl | rfl | rfl <;> decide
theorem unL_nm {x : ByteArray} {j : Nat} (h : unL[j]? = some x) : nmB x := by
 have h1 := List.mem_of_getElem? h
 simp only [unL, List.mem_cons, List.not_mem_nil, or_false] at h1
 rcases h1 with rfl | rfl | rfl <;> exact nmB_of rfl
theorem biL_nm {x : ByteArray} {j : Nat} (h : biL[j]? = some x) : nmB x := by
 have h1 := List.mem_of_getElem? h
 simp only [biL, List.mem_cons, List.not_mem_nil, or_false] at h1
 rcases h1 with rfl | rfl | rfl | rfl | rfl | rfl | rfl | rfl | rfl | rfl | rfl | rfl | rfl | rfl | rfl | rfl <;> exact nmB_of rfl
theorem fresh_nm {x : ByteArray} {j : Nat} (h : freshL[j]? = some x) : nmB x := by
 have h1 := List.mem_of_getElem? h
 simp only [freshL, List.mem_cons, List.not_mem_nil, or_false] at h1
 rcases h1 with rfl | rfl | rfl | rfl | rfl | rfl | rfl | rfl <;> exact nmB_of rfl
def Nm (s : Gs) : Prop := ∀ x ∈ s.names, nmB x
theorem Nm.same {s s' : Gs} (h : Nm s) (k : s'.names = s.names) : Nm s' := by unfold Nm; rw [k]; exact h
def Cok (c : Gc) : Prop := ∀ f ∈ c.fs, nmB f.1 ∧ f.2.length ≤ 4
mutual
theorem GXr.gx {c : Gc} (hc : Cok c) : ∀ {d : Nat} {s s' : Gs} {p : Px}, GXr c d s p s' → Nm s → ∀ t, erX t = p → GX t ∧ nX t ≤ 5 ^ (d + 1)
 | d, s, _, _, .nam hk h hn hj hx, hs, t, ht => by
  obtain ⟨v, kids, rfl, hkk⟩ := erX_mk ht
  cases erXs_nil hkk
  exact leaf_gx d oW0 (hs _ ((gK_st hk).1 ▸ List.mem_of_getElem? hx))
 | d, s, _, _, .inp hk, hs, t, ht => by
  obtain ⟨v, kids, rfl, hkk⟩ := erX_mk ht
  cases erXs_nil hkk
  exact leaf_gx d oW0 (nmB_of rfl)
 | _, s, _, _, .mem hk h hp, hs, t, ht => by
  obtain ⟨v, kids, rfl, hkk⟩ := erX_mk ht
  obtain ⟨t1, rfl, h1⟩ := erXs_one hkk
  exact one_gx oW0 (nmB_of rfl) (hp.gx hc (hs.same (gK_st hk).1) t1 h1)
 | _, s, _, _, .una hk hj hx hp, hs, t, ht => by
  obtain ⟨v, kids, rfl, hkk⟩ := erX_mk ht
  obtain ⟨t1, rfl, h1⟩ := erXs_one hkk
  exact one_gx oW0 (unL_nm hx) (hp.gx hc ((hs.same (gK_st hk).1).same (gN_st2 hj).1) t1 h1)
 | d + 1, s, _, _, .call hk h hj hx hp, hs, t, ht => by
  obtain ⟨v, kids, rfl, hkk⟩ := erX_mk ht
  have hf := hc _ (List.mem_of_getElem? hx)
  obtain ⟨h1, h2, h3⟩ := hp.gx hc ((hs.same (gK_st hk).1).same (gN_st2 hj).1) kids hkk
  refine ⟨⟨oW0, hf.1, by omega, h1⟩, ?_⟩
  rw [nX]
  have := pow5 d
  have h4 : _ * 5 ^ (d + 1) ≤ 4 * 5 ^ (d + 1) := Nat.mul_le_mul_right _ hf.2
  omega
 | _, s, _, _, .bin hk h hj hx hp hq, hs, t, ht => by
  obtain ⟨v, kids, rfl, hkk⟩ := erX_mk ht
  obtain ⟨t1, t2, rfl, h1, h2⟩ := erXs_two hkk
  have hs2 := (hs.same (gK_st hk).1).same (gN_st2 hj).1
  exact two_gx oW0 (biL_nm hx) (hp.gx hc hs2 t1 h1) (hq.gx hc (hs2.same hp.keep.1) t2 h2)
 | d, s, _, _, .con hk h1 h3 h4 h5 h6 h7 h8 hj hx, hs, t, ht => by
  obtain ⟨v, kids, rfl, hkk⟩ := erX_mk ht
  cases erXs_nil hkk
  exact leaf_gx d (cL_oW hx) (nmB_of rfl)
theorem GKr.gx {c : Gc} (hc : Cok c) : ∀ {d n : Nat} {s s' : Gs} {ps : List Px}, GKr c d n s ps s' → Nm s → ∀ ts, erXs ts = ps → GXs ts ∧ nXs ts ≤ n * 5 ^ (d + 1) ∧ ts.length = n
 | d, _, s, _, _, .nil, hs, ts, ht => by
  cases erXs_nil ht
  exact ⟨trivial, by rw [nXs]; exact Nat.zero_le _, rfl⟩
 | d, n + 1, s, _, _, .cons hp hq, hs, ts, ht => by
  obtain ⟨t, r, rfl, h1, h2⟩ := erXs_cons ht
  obtain ⟨a1, a2⟩ := hp.gx hc hs t h1
  obtain ⟨b1, b2, b3⟩ := hq.gx hc (hs.same hp.keep.1) r h2
  refine ⟨⟨a1, b1⟩, ?_, by rw [List.length_cons, b3]⟩
  rw [nXs, Nat.succ_mul]
  omega
end
theorem GCr.gx {c : Gc} (hc : Cok c) {d : Nat} {f : ByteArray × List ByteArray} {s s' : Gs} {p : Px} (hf : f ∈ c.fs) (h : GCr c d f s p s') (hs : Nm s) (t : Tx) (ht : erX t = p) : GX t ∧ nX t ≤ 5 ^ (d + 1 + 1) := by
 obtain ⟨ps, h1, rfl⟩ := h
 obtain ⟨v, kids, rfl, hkk⟩ := erX_mk ht
 obtain ⟨h1, h2, h3⟩ := h1.gx hc hs kids hkk
 have h5 := hc f hf
 refine ⟨⟨oW0, h5.1, by omega, h1⟩, ?_⟩
 rw [nX]
 have := pow5 d
 have h4 : f.2.length * 5 ^ (d + 1) ≤ 4 * 5 ^ (d + 1) := Nat.mul_le_mul_right _ h5.2
 omega
/-- What is said of statements. -/
def Sok (s s' : Gs) (m : Int) (ts : List Ty) : Prop := GYs ts ∧ (nYs ts : Int) ≤ 4000 * (s.left - s'.left) + m ∧ Nm s'
theorem es1_ok {k : Int} {nm : ByteArray} {v : SV} {t : Tx} {d : Nat} (hm : nmB nm) (h : GX t ∧ nX t ≤ 5 ^ (d + 1)) (hd : d ≤ 3) {vb vl : SV} : GY (.mk k nm v [t] vb [] vl []) ∧ nY (.mk k nm v [t] vb [] vl []) ≤ 626 := by
 refine ⟨⟨hm, ⟨by show 1 ≤ 1000000; decide, h.1, trivial⟩, ⟨Nat.zero_le _, trivial⟩, Nat.zero_le _, trivial⟩, ?_⟩
 rw [nY, nXs, nXs, nYs]
 have h5 : 5 ^ (d + 1) ≤ 5 ^ 4 := Nat.pow_le_pow_right (by decide) (by omega)
 have := h.2
 omega
theorem one_sok {s s' : Gs} {t : Ty} (h : GY t ∧ nY t ≤ 2000) (hl : s'.left ≤ s.left) (hn : Nm s') : Sok s s' 4000 [t] := by
 refine ⟨⟨h.1, trivial⟩, ?_, hn⟩
 rw [nYs, nYs]
 have := h.2
 omega
mutual
theorem GYr.gy {c : Gc} (hc : Cok c) : ∀ {e : Nat} {s s' : Gs} {o : List Py}, GYr c e s o s' → GInv s → Nm s → ∀ ts, erYs ts = o → Sok s s' 0 ts ∧ ts.length ≤ 10
 | _, s, s', _, .mk (s1 := s1) hj h, hi, hs, ts, ht => by
  have k := gN_st2 hj
  obtain ⟨⟨h1, h2, h3⟩, h4⟩ := h.gy hc (hi.same k) (hs.same k.1) ts ht
  have := gN_bd (by decide) hj
  exact ⟨⟨h1, by rw [← k.2.1]; exact h2, h3⟩, by omega⟩
theorem GLr.gy {c : Gc} (hc : Cok c) : ∀ {e n : Nat} {s s' : Gs} {o : List Py}, GLr c e n s o s' → GInv s → Nm s → ∀ ts, erYs ts = o → Sok s s' 0 ts ∧ ts.length ≤ 2 * n
 | _, _, s, _, _, .zero, hi, hs, ts, ht => by
  cases erYs_nil ht
  exact ⟨⟨trivial, by rw [nYs]; omega, hs⟩, Nat.zero_le _⟩
 | _, _, s, _, _, .stop _, hi, hs, ts, ht => by
  cases erYs_nil ht
  exact ⟨⟨trivial, by rw [nYs]; omega, hs⟩, Nat.zero_le _⟩
 | _, n + 1, s, s3, _, .step (s1 := s1) (s2 := s2) hl hk h1 h2, hi, hs, ts, ht => by
  obtain ⟨u, v, rfl, hu, hv⟩ := erYs_split ht
  have hi2 : GInv { s with left := s.left - 1 } := ⟨hi.v0, hi.v8, hi.nm, by show s.left - 1 ≤ 1000; have := hi.lf; omega⟩
  have k := gN_st2 hk
  have hi3 := hi2.same k
  have hs3 : Nm s1 := Nm.same (s := { s with left := s.left - 1 }) hs k.1
  obtain ⟨⟨a1, a2, a3⟩, a4⟩ := h1.gy hc hi3 hs3 u hu
  obtain ⟨⟨b1, b2, b3⟩, b4⟩ := h2.gy hc (h1.inv hi3).inv a3 v hv
  refine ⟨⟨GYs_app a1 b1, ?_, b3⟩, ?_⟩
  ·rw [nYs_app]
   have k2 : s1.left = s.left - 1 := k.2.1
   omega
  ·rw [List.length_append]; omega
theorem G1r.gy {c : Gc} (hc : Cok c) : ∀ {e : Nat} {k : Int} {s s' : Gs} {o : List Py}, G1r c e k s o s' → GInv s → Nm s → ∀ ts, erYs ts = o → Sok s s' 4000 ts ∧ ts.length ≤ 2
 | _, _, s, _, _, .var (s1 := s1) (x := x) _ hx hv hp, hi, hs, ts, ht => by
  obtain ⟨t, rfl, hty⟩ := erYs_one ht
  obtain ⟨v, xs, vb, b, vl, l, rfl, h1, h2, h3⟩ := erY_mk hty
  obtain ⟨t1, rfl, e1⟩ := erXs_one h1
  cases erYs_nil h2
  cases erYs_nil h3
  have hg := hp.gx hc (s := { s with vars := s.vars + 1 }) hs t1 e1
  have hk := hp.keep
  have hy := es1_ok (k := 1) (v := v) (vb := vb) (vl := vl) (fresh_nm hx) hg (by decide)
  refine ⟨one_sok ⟨hy.1, by have := hy.2; omega⟩ (by show s1.left ≤ s.left; rw [hk.2.1]; exact Int.le_refl _) ?_, by show 1 ≤ 2; decide⟩
  intro y hy
  rcases List.mem_append.1 hy with hy | hy
  ·exact hs _ (hk.1 ▸ hy)
  ·rw [List.mem_singleton.1 hy]; exact fresh_nm hx
 | _, _, s, _, _, .set hn hj hx hp, hi, hs, ts, ht => by
  obtain ⟨t, rfl, hty⟩ := erYs_one ht
  obtain ⟨v, xs, vb, b, vl, l, rfl, h1, h2, h3⟩ := erY_mk hty
  obtain ⟨t1, rfl, e1⟩ := erXs_one h1
  cases erYs_nil h2
  cases erYs_nil h3
  have kj := gN_st2 hj
  have hs1 := hs.same kj.1
  have hg := hp.gx hc hs1 t1 e1
  have hk := keep_tr kj hp.keep
  have hy := es1_ok (k := 2) (v := v) (vb := vb) (vl := vl) (hs _ (List.mem_of_getElem? hx)) hg (by decide)
  exact ⟨one_sok ⟨hy.1, by have := hy.2; omega⟩ (by rw [hk.2.1]; exact Int.le_refl _) (hs.same hk.1), by show 1 ≤ 2; decide⟩
 | _, _, s, _, _, .put hk hp hq, hi, hs, ts, ht => by
  obtain ⟨t, rfl, hty⟩ := erYs_one ht
  obtain ⟨v, xs, vb, b, vl, l, rfl, h1, h2, h3⟩ := erY_mk hty
  obtain ⟨t1, t2, rfl, e1, h4⟩ := erXs_two h1
  cases erYs_nil h2
  cases erYs_nil h3
  have hg1 := hp.gx hc hs t1 e1
  have hg2 := hq.gx hc (hs.same hp.keep.1) t2 h4
  have hk := keep_tr hp.keep hq.keep
  refine ⟨one_sok ⟨⟨nmB_of rfl, ⟨by show 2 ≤ 1000000; decide, hg1.1, hg2.1, trivial⟩, ⟨Nat.zero_le _, trivial⟩, Nat.zero_le _, trivial⟩, ?_⟩ (by rw [hk.2.1]; exact Int.le_refl _) (hs.same hk.1), by show 1 ≤ 2; decide⟩
  rw [nY, nXs, nXs, nXs, nYs]
  have := hg1.2; have := hg2.2
  omega
 | _, _, s, s4, _, .iff1 (s1 := s1) (s2 := s2) (s3 := s3) hp ha hj hb, hi, hs, ts, ht => by
  obtain ⟨t, rfl, hty⟩ := erYs_one ht
  obtain ⟨v, xs, vb, b, vl, l, rfl, h1, h2, h3⟩ := erY_mk hty
  obtain ⟨t1, rfl, e1⟩ := erXs_one h1
  have hg1 := hp.gx hc hs t1 e1
  have hi1 := hi.same hp.keep
  have hs1 := hs.same hp.keep.1
  obtain ⟨⟨a1, a2, a3⟩, a4⟩ := ha.gy hc hi1 hs1 b h2
  have kj := gN_st2 hj
  have hi2 := (ha.inv hi1).inv
  have hi3 := hi2.same kj
  obtain ⟨⟨b1, b2, b3⟩, b4⟩ := hb.gy hc hi3 (a3.same kj.1) l h3
  refine ⟨⟨⟨⟨nmB_of rfl, ⟨by show 1 ≤ 1000000; decide, hg1.1, trivial⟩, ⟨by omega, a1⟩, by omega, b1⟩, trivial⟩, ?_, b3⟩, by show 1 ≤ 2; decide⟩
  rw [nYs, nYs, nY, nXs, nXs]
  have := hg1.2; have := hp.keep.2.1; have := kj.2.1
  omega
 | _, _, s, s4, _, .iff0 (s1 := s1) (s2 := s2) hp ha hj _, hi, hs, ts, ht => by
  obtain ⟨t, rfl, hty⟩ := erYs_one ht
  obtain ⟨v, xs, vb, b, vl, l, rfl, h1, h2, h3⟩ := erY_mk hty
  obtain ⟨t1, rfl, e1⟩ := erXs_one h1
  cases erYs_nil h3
  have hg1 := hp.gx hc hs t1 e1
  have hi1 := hi.same hp.keep
  have hs1 := hs.same hp.keep.1
  obtain ⟨⟨a1, a2, a3⟩, a4⟩ := ha.gy hc hi1 hs1 b h2
  have kj := gN_st2 hj
  refine ⟨⟨⟨⟨nmB_of rfl, ⟨by show 1 ≤ 1000000; decide, hg1.1, trivial⟩, ⟨by omega, a1⟩, Nat.zero_le _, trivial⟩, trivial⟩, ?_, a3.same kj.1⟩, by show 1 ≤ 2; decide⟩
  rw [nYs, nYs, nY, nXs, nXs, nYs]
  have := hg1.2; have := hp.keep.2.1; have := kj.2.1
  omega
 | _, _, s, _, _, .whi (s1 := s1) (s2 := s2) (x := x) (j := j) hx hv hj ha, hi, hs, ts, ht => by
  obtain ⟨t, r, rfl, hty, hr⟩ := erYs_cons ht
  obtain ⟨u, rfl, hu⟩ := erYs_one hr
  obtain ⟨v, xs, vb, b, vl, l, rfl, h1, h2, h3⟩ := erY_mk hty
  obtain ⟨t1, rfl, e1⟩ := erXs_one h1
  cases erYs_nil h2
  cases erYs_nil h3
  obtain ⟨v', xs', vb', b', vl', l', rfl, h1', h2', h3'⟩ := erY_mk hu
  obtain ⟨t1', rfl, e1'⟩ := erXs_one h1'
  cases erYs_nil h3'
  obtain ⟨b1, b2, rfl, hb1, hb2⟩ := erYs_split h2'
  obtain ⟨t2, rfl, eb2⟩ := erYs_one hb2
  obtain ⟨v3, xs3, vb3, b3, vl3, l3, rfl, g1, g2, g3⟩ := erY_mk eb2
  obtain ⟨t3, rfl, eg1⟩ := erXs_one g1
  cases erYs_nil g2
  cases erYs_nil g3
  obtain ⟨v4, kids4, rfl, g4⟩ := erX_mk eg1
  obtain ⟨t5, t6, rfl, g5, g6⟩ := erXs_two g4
  obtain ⟨v5, kids5, rfl, eg5⟩ := erX_mk g5
  cases erXs_nil eg5
  obtain ⟨v6, kids6, rfl, eg6⟩ := erX_mk g6
  cases erXs_nil eg6
  obtain ⟨v7, kids7, rfl, e7⟩ := erX_mk e1
  cases erXs_nil e7
  obtain ⟨v8, kids8, rfl, e8⟩ := erX_mk e1'
  cases erXs_nil e8
  have hm := fresh_nm hx
  have kj := gN_st2 hj
  have hjb := gN_bd (by decide) hj
  have hi1 := hi.var hv
  have hi2 := hi1.same kj
  have hs2 : Nm s1 := Nm.same (s := { s with vars := s.vars + 1 }) hs kj.1
  obtain ⟨⟨a1, a2, a3⟩, a4⟩ := ha.gy hc hi2 hs2 b1 hb1
  have hj0 : oW j := ⟨hjb.1, by omega⟩
  have hn : GX (.mk 2 0 x v8 []) := ⟨oW0, hm, Nat.zero_le _, trivial⟩
  have hn5 : GX (.mk 2 0 x v5 []) := ⟨oW0, hm, Nat.zero_le _, trivial⟩
  have hn6 : GX (.mk 1 1 oNil v6 []) := ⟨by decide, nmB_of rfl, Nat.zero_le _, trivial⟩
  have hd : GX (.mk 7 0 oSub v4 [.mk 2 0 x v5 [], .mk 1 1 oNil v6 []]) := ⟨oW0, nmB_of rfl, by show 2 ≤ 1000000; decide, hn5, hn6, trivial⟩
  have hdy : GY (.mk 2 x v3 [.mk 7 0 oSub v4 [.mk 2 0 x v5 [], .mk 1 1 oNil v6 []]] vb3 [] vl3 []) := ⟨hm, ⟨by show 1 ≤ 1000000; decide, hd, trivial⟩, ⟨Nat.zero_le _, trivial⟩, Nat.zero_le _, trivial⟩
  refine ⟨⟨⟨⟨hm, ⟨by show 1 ≤ 1000000; decide, ⟨hj0, nmB_of rfl, Nat.zero_le _, trivial⟩, trivial⟩, ⟨Nat.zero_le _, trivial⟩, Nat.zero_le _, trivial⟩, ⟨nmB_of rfl, ⟨by show 1 ≤ 1000000; decide, hn, trivial⟩, ⟨by rw [List.length_append, List.length_singleton]; omega, GYs_app a1 ⟨hdy, trivial⟩⟩, Nat.zero_le _, trivial⟩, trivial⟩, ?_, ?_⟩, by show 2 ≤ 2; decide⟩
  ·simp only [nYs, nY, nXs, nX, nYs_app]
   have k1 : s1.left = s.left := kj.2.1
   show _ ≤ 4000 * (s.left - s2.left) + 4000
   omega
  ·intro y hy
   rcases List.mem_append.1 hy with hy | hy
   ·exact a3 _ hy
   ·rw [List.mem_singleton.1 hy]; exact hm
 | _, _, s, _, _, .ret hj hp, hi, hs, ts, ht => by
  obtain ⟨t, rfl, hty⟩ := erYs_one ht
  obtain ⟨v, xs, vb, b, vl, l, rfl, h1, h2, h3⟩ := erY_mk hty
  obtain ⟨t1, rfl, e1⟩ := erXs_one h1
  cases erYs_nil h2
  cases erYs_nil h3
  have kj := gN_st2 hj
  have hg := hp.gx hc (hs.same kj.1) t1 e1
  have hk := keep_tr kj hp.keep
  have hy := es1_ok (k := 6) (v := v) (vb := vb) (vl := vl) (nm := oNil) (nmB_of rfl) hg (by decide)
  exact ⟨one_sok ⟨hy.1, by have := hy.2; omega⟩ (by rw [hk.2.1]; exact Int.le_refl _) (hs.same hk.1), by show 1 ≤ 2; decide⟩
 | _, _, s, _, _, .dos (s2 := s2) (s3 := s3) (f := f) h hj hj2 hf hp, hi, hs, ts, ht => by
  obtain ⟨t, rfl, hty⟩ := erYs_one ht
  obtain ⟨v, xs, vb, b, vl, l, rfl, h1, h2, h3⟩ := erY_mk hty
  obtain ⟨t1, rfl, e1⟩ := erXs_one h1
  cases erYs_nil h2
  cases erYs_nil h3
  have k1 : s3.names = s2.names ∧ s3.left = s2.left ∧ s3.vars = s2.vars := by
   rcases hf with ⟨_, _, h⟩ | ⟨_, j3, h, _⟩
   ·rw [h]; exact ⟨rfl, rfl, rfl⟩
   ·exact gN_st2 h
  have hfm : f ∈ c.fs := by
   rcases hf with ⟨_, h, _⟩ | ⟨_, j3, _, h⟩ <;> exact List.mem_of_getElem? h
  have kj := keep_tr (keep_tr (gN_st2 hj) (gN_st2 hj2)) k1
  have hg := hp.gx hc hfm (hs.same kj.1) t1 e1
  have hk := keep_tr kj hp.keep
  have hy := es1_ok (k := 8) (v := v) (vb := vb) (vl := vl) (nm := oNil) (d := 2) (nmB_of rfl) hg (by decide)
  exact ⟨one_sok ⟨hy.1, by have := hy.2; omega⟩ (by rw [hk.2.1]; exact Int.le_refl _) (hs.same hk.1), by show 1 ≤ 2; decide⟩
 | _, _, s, _, _, .out (s1 := s1) _ _ _ _ _ _ h8 _ hp, hi, hs, ts, ht => by
  obtain ⟨t, rfl, hty⟩ := erYs_one ht
  obtain ⟨v, xs, vb, b, vl, l, rfl, h1, h2, h3⟩ := erY_mk hty
  obtain ⟨t1, rfl, e1⟩ := erXs_one h1
  cases erYs_nil h2
  cases erYs_nil h3
  have k1 : s1.names = s.names ∧ s1.left = s.left ∧ s1.vars = s.vars := by
   rcases h8 with ⟨_, h⟩ | ⟨_, j, _, h⟩
   ·rw [h]; exact ⟨rfl, rfl, rfl⟩
   ·exact gN_st2 h
  have hg := hp.gx hc (hs.same k1.1) t1 e1
  have hk := keep_tr k1 hp.keep
  have hy := es1_ok (k := 7) (v := v) (vb := vb) (vl := vl) (nm := oNil) (nmB_of rfl) hg (by decide)
  exact ⟨one_sok ⟨hy.1, by have := hy.2; omega⟩ (by rw [hk.2.1]; exact Int.le_refl _) (hs.same hk.1), by show 1 ≤ 2; decide⟩
end
mutual
theorem GYr.left0 {c : Gc} : ∀ {e : Nat} {s s' : Gs} {o : List Py}, GYr c e s o s' → 0 ≤ s.left → 0 ≤ s'.left
 | _, _, _, _, .mk hj h, hi => h.left0 (by rw [(gN_st2 hj).2.1]; exact hi)
theorem GLr.left0 {c : Gc} : ∀ {e n : Nat} {s s' : Gs} {o : List Py}, GLr c e n s o s' → 0 ≤ s.left → 0 ≤ s'.left
 | _, _, _, _, _, .zero, hi => hi
 | _, _, _, _, _, .stop _, hi => hi
 | _, _, s, _, _, .step hl hk h1 h2, hi => h2.left0 (h1.left0 (by rw [(gN_st2 hk).2.1]; show 0 ≤ s.left - 1; omega))
theorem G1r.left0 {c : Gc} : ∀ {e : Nat} {k : Int} {s s' : Gs} {o : List Py}, G1r c e k s o s' → 0 ≤ s.left → 0 ≤ s'.left
 | _, _, s, _, _, .var (s1 := s1) _ _ _ hp, hi => by show 0 ≤ s1.left; rw [hp.keep.2.1]; exact hi
 | _, _, _, _, _, .set _ hj _ hp, hi => by rw [(keep_tr (gN_st2 hj) hp.keep).2.1]; exact hi
 | _, _, _, _, _, .put _ hp hq, hi => by rw [(keep_tr hp.keep hq.keep).2.1]; exact hi
 | _, _, _, _, _, .iff1 hp ha hj hb, hi => hb.left0 (by rw [(gN_st2 hj).2.1]; exact ha.left0 (by rw [hp.keep.2.1]; exact hi))
 | _, _, _, _, _, .iff0 hp ha hj _, hi => by rw [(gN_st2 hj).2.1]; exact ha.left0 (by rw [hp.keep.2.1]; exact hi)
 | _, _, s, _, _, .whi (s2 := s2) _ _ hj ha, hi => by show 0 ≤ s2.left; exact ha.left0 (by rw [(gN_st2 hj).2.1]; exact hi)
 | _, _, _, _, _, .ret hj hp, hi => by rw [(keep_tr (gN_st2 hj) hp.keep).2.1]; exact hi
 | _, _, s, _, _, .dos (s2 := s2) (s3 := s3) _ hj hj2 hf hp, hi => by
  have k1 : s3.names = s2.names ∧ s3.left = s2.left ∧ s3.vars = s2.vars := by
   rcases hf with ⟨_, _, h⟩ | ⟨_, j3, h, _⟩
   ·rw [h]; exact ⟨rfl, rfl, rfl⟩
   ·exact gN_st2 h
  rw [(keep_tr (keep_tr (keep_tr (gN_st2 hj) (gN_st2 hj2)) k1) hp.keep).2.1]; exact hi
 | _, _, s, _, _, .out (s1 := s1) _ _ _ _ _ _ h8 _ hp, hi => by
  have k1 : s1.names = s.names ∧ s1.left = s.left ∧ s1.vars = s.vars := by
   rcases h8 with ⟨_, h⟩ | ⟨_, j, _, h⟩
   ·rw [h]; exact ⟨rfl, rfl, rfl⟩
   ·exact gN_st2 h
  rw [(keep_tr k1 hp.keep).2.1]; exact hi
end
/-- The names of functions and of parameters. -/
def hNames : List ByteArray := [nMain, ⟨#[102]⟩, ⟨#[103]⟩, ⟨#[116, 119, 101, 108, 118, 101, 108, 101, 116, 116, 101, 114]⟩]
def pNames : List ByteArray := [⟨#[112]⟩, ⟨#[113]⟩, ⟨#[114]⟩, ⟨#[115]⟩]
/-- The head of function i. -/
def hd1 (l : List Int) (i : Nat) (s : Gs) : (ByteArray × List ByteArray) × Gs :=
 let q := if 0 < i then gN l 5 s else (0, s)
 ((hNames.getD i oNil, pNames.take q.1.toNat), q.2)
/-- The first i heads. -/
def hds (l : List Int) (s : Gs) : Nat → List (ByteArray × List ByteArray) × Gs
 | 0 => ([], s)
 | i + 1 => let r := hds l s i; let q := hd1 l i r.2; (r.1 ++ [q.1], q.2)
def gs0 : Gs := ⟨0, 0, 0, 0, []⟩
/-- The bodies of the first i functions. -/
inductive GBr (l : List Int) (fs : List (ByteArray × List ByteArray)) (s0 : Gs) : Nat → List Pf → Gs → Prop
 | zero : GBr l fs s0 0 [] s0
 | step {i : Nat} {ps : List Pf} {s s2 : Gs} {f : ByteArray × List ByteArray} {b : List Py} (h : GBr l fs s0 i ps s) (hf : fs[i]? = some f) (hb : GYr ⟨l, i, fs⟩ 3 { s with left := 8, nodes := 150, vars := 0, names := f.2 } b s2) : GBr l fs s0 (i + 1) (ps ++ [⟨f.1, f.2, b⟩]) s2
def gMany (l : List Int) : Nat := (1 + (gN l 4 gs0).1).toNat
def gHds (l : List Int) : List (ByteArray × List ByteArray) × Gs := hds l (gN l 4 gs0).2 (gMany l)
/-- The programs that a list of numbers determines. -/
def GMr (l : List Int) (ps : List Pf) : Prop := ∃ s, GBr l (gHds l).1 (gHds l).2 (gMany l) ps s
theorem hNames_nm (i : Nat) : nmB (hNames.getD i oNil) := by
 rcases i with _ | _ | _ | _ | i <;> exact nmB_of rfl
theorem pNames_nm : ∀ x ∈ pNames, nmB x := by
 intro x hx
 simp only [pNames, List.mem_cons, List.not_mem_nil, or_false] at hx
 rcases hx with rfl | rfl | rfl | rfl <;> exact nmB_of rfl
theorem hds_len (l : List Int) (s : Gs) : ∀ i, (hds l s i).1.length = i
 | 0 => rfl
 | i + 1 => by rw [hds]; simp only [List.length_append, List.length_singleton, hds_len l s i]
def Hok (f : ByteArray × List ByteArray) : Prop := nmB f.1 ∧ f.2.length ≤ 4 ∧ ∀ x ∈ f.2, nmB x
theorem hd1_ok (l : List Int) (i : Nat) (s : Gs) : Hok (hd1 l i s).1 :=
 ⟨hNames_nm i, by unfold hd1; rw [List.length_take]; exact Nat.min_le_right _ _, fun x hx => pNames_nm x (List.mem_of_mem_take hx)⟩
theorem hds_ok (l : List Int) (s : Gs) : ∀ i, ∀ f ∈ (hds l s i).1, Hok f
 | 0, f, h => by simp [hds] at h
 | i + 1, f, h => by
  rw [hds] at h
  rcases List.mem_append.1 h with h | h
  ·exact hds_ok l s i f h
  ·rw [List.mem_singleton.1 h]; exact hd1_ok _ _ _
theorem gMany_bd (l : List Int) : 1 ≤ gMany l ∧ gMany l ≤ 4 := by
 have := gN_bnd l (n := 4) (by decide) gs0
 unfold gMany
 omega
section
variable {P : Program} {N : Nat} {w0 : World} {M H : Nat → Prop} {E : Env} {Γ R : Ctx} {d : Nat} {T : TypeId} {ps : String} {af : Array Edge}
theorem ms_appendG {α : Type} {S U : TypeId} {D : TypeDesc} {z : Value} {s bb : Nat} {enc : α → List Value} {x y : Operand} {v v2 v0 : Value} {l l2 l0 : List α} (k : Nat) (hS : P.underlying S = some (.slice U)) (hU : TI P U D z s bb) (hzs : z.cells.size = s) (hs0 : 0 < s) (he : ∀ x, (enc x).length = s) (h1 : ∀ x, (enc x).all (·.oneCell') = true)
  (hx : ev E x = some v) (hy : ev E y = some v2) (hk : cget Γ k = some (own U s enc v0 l0)) (hown : ∀ w G, (own U s enc v0 l0).pred w G → (own U s enc v l).pred w G) (h2 : SlS w0 M H Γ R s enc v2 l2) (hm : (l.length + l2.length) * bb ≤ 140737488355328) (hm' : l.length + l2.length ≤ maxLen)
  : MS P N w0 M H E Γ R ⟨some d, .call { callee := .builtin .append, args := #[x, y], argTypes := #[S, S] }, T, ps, af, none⟩ (X := SV) (fun _ => True) (fun v' => sv v') (fun v' => (k, own U s enc (sv v') (l ++ l2)) :: Γ) (fun _ => R) := by
 refine ms_gen fun a w hE hC => ?_
 obtain ⟨G0, hp00, hlt0⟩ := hC.reads (.inl hk)
 have hp0 := hown _ _ hp00
 obtain ⟨G2, c, h3, h4, h5⟩ := h2 w hC
 obtain ⟨i, i1, i2, i3, i4⟩ := hU.info
 have hfl : ∀ l' : List α, (l'.flatMap enc).length = l'.length * s := flatMap_len he
 rcases h5 with ⟨rfl, _, rfl⟩ | ⟨b2, o2, rfl, _, hc2⟩
 ·obtain ⟨xv, rfl⟩ := ownsRow_sv hp0.2
  refine ⟨xv, w, trivial, ?_, ?_⟩
  ·have hr := run_append_owned_none (P := P) w 0 S T U i s hS i1 (sv xv) l.length _ hp0.2
   simp [execOp, resolve, invoke, builtin, hE.ev hx, hE.ev hy, hr]
  ·simp only [List.append_nil]
   exact hC.upd hk fun G hG0 hGlt => ⟨G, hown _ _ hG0, fun b hb => ⟨hGlt b hb, fun _ => hb⟩, Touch.refl _ _⟩
 ·obtain ⟨v', w', hr, ho, hg, hn⟩ := run_append_own (P := P) w 0 S T U i z s bb hS i1 i2 i3 i4 hzs hs0 v l.length _ hp0.2 ⟨b2, o2, none⟩ l2.length c (l2.flatMap enc) (hfl l2)
   (fun j u hj => by rw [add_lit']; exact hc2 j u hj) (fun u hu => by obtain ⟨x, _, hxu⟩ := List.mem_flatMap.1 hu; simpa using List.all_eq_true.1 (h1 x) u hxu) hm' hm (Nat.zero_le _)
  obtain ⟨xv, rfl⟩ := ownsRow_sv ho
  refine ⟨xv, w', trivial, ?_, ?_⟩
  ·simp [execOp, resolve, invoke, builtin, hE.ev hx, hE.ev hy, hr]
  ·refine hC.upd hk fun G hG0 hGlt => by
    have hG := hown _ _ hG0
    refine ⟨fun b => (sv xv).ownBlock = some b, ⟨fun x => Iff.rfl, ?_⟩, fun b hb => ⟨(ho.lt b hb).2, fun hlt => ?_⟩, ⟨hg.os, hg.tape, hg.output, hg.size, fun i hi hne => hg.block i hi (fun e => hne ((hG.1 i).2 e.symm))⟩⟩
    ·rw [List.length_append, List.flatMap_append]; exact ho
    ·rcases hp0.2.2 with ⟨rfl, hl0⟩ | ⟨g, cap, cur, rfl, hbg, hgg, hnc, hcm, hcs, htake⟩
     ·exfalso
      have hl : l = [] := List.eq_nil_of_length_eq_zero hl0
      subst hl
      by_cases hz : l2.length = 0
      ·have hl2 : l2 = [] := List.eq_nil_of_length_eq_zero hz
       subst hl2
       have := (hn.2 ⟨rfl, rfl⟩)
       rw [this] at hb
       simp [Value.ownBlock] at hb
      ·have hr2 := run_append_nil (P := P) w S T U i z hS i1 i2 ⟨b2, o2, none⟩ l2.length c (l2.flatMap enc) (by rw [hfl, i3]) (fun j u hj => by rw [add_lit']; exact hc2 j u hj) (by simpa using Nat.pos_of_ne_zero hz) (by simp only [maxLen] at hm'; simp at hm'; omega) (by rw [i4]; simp at hm; omega)
       rw [hr2] at hr
       injection hr with hr3 hr4
       replace hb : (sv xv).ownBlock = some b := hb
       rw [← hr3] at hb
       simp [Value.ownBlock] at hb
       omega
     ·by_cases hroom : l.length + l2.length ≤ cap
      ·have hfit : l.length * i.size + (l2.flatMap enc).length ≤ cur.size := by rw [hfl, hcs, i3, ← Nat.add_mul]; exact Nat.mul_le_mul_right _ hroom
       have hr2 := run_append_room (P := P) w S T U i hS i1 g l.length cap cur hgg ⟨b2, o2, none⟩ l2.length c (l2.flatMap enc) (by rw [hfl, i3]) (fun j u hj => by rw [add_lit']; exact hc2 j u hj) (fun u hu => by obtain ⟨x, _, hxu⟩ := List.mem_flatMap.1 hu; simpa using List.all_eq_true.1 (h1 x) u hxu) hroom hfit
       rw [hr2] at hr
       injection hr with hr3 hr4
       replace hb : (sv xv).ownBlock = some b := hb
       rw [← hr3] at hb
       simp [Value.ownBlock] at hb
       subst hb
       exact (hG.1 g).2 rfl
      ·exfalso
       have holds := hp0.2.cells (g := g) rfl
       have hr2 := run_append_grow (P := P) w S T U i z hS i1 i2 ⟨g, 0, none⟩ l.length cap (l.flatMap enc) (by rw [hfl, i3]) holds ⟨b2, o2, none⟩ l2.length c (l2.flatMap enc) (by rw [hfl, i3]) (fun j u hj => by rw [add_lit']; exact hc2 j u hj) (by omega) (by simp only [maxLen] at hm'; omega) (growslice_fits (by omega) (by rw [i4]; exact hm))
       rw [hr2] at hr
       injection hr with hr3 hr4
       replace hb : (sv xv).ownBlock = some b := hb
       rw [← hr3] at hb
       simp [Value.ownBlock] at hb
       omega
end
/-- All parts of functions can be read. -/
def fsA (l : List Tf) : Asn := ⟨fun w F => ∀ f ∈ l, TfIn w F f, fun h hs f hf => (h f hf).stable hs⟩
/-- The heads that were made, and the functions that are finished. -/
def tgA (v : SV) (l o : List Tf) : Asn := ⟨fun w F => (SlIn' w F 3 eTf (sv v) l ∧ ∀ f ∈ l, TfIn w F f) ∧ ∀ f ∈ o, TfIn w F f, fun h hs => ⟨⟨h.1.1.stable hs, fun f hf => (h.1.2 f hf).stable hs⟩, fun f hf => (h.2 f hf).stable hs⟩⟩
theorem TfIn.up {w : World} {F G : Nat → Prop} {f : Tf} (h : TfIn w G f) (hs : ∀ b, G b → F b) : TfIn w F f := by
 obtain ⟨⟨A, a1, a2⟩, ⟨⟨B, b1, b2⟩, b3⟩⟩ := h
 exact ⟨⟨A, a1, fun b hb => hs b (a2 b hb)⟩, ⟨⟨B, b1, fun b hb => hs b (b2 b hb)⟩, TysIn.mono hs (fun _ _ => rfl) _ b3⟩⟩
theorem SlIn'.up {α : Type} {w : World} {F G : Nat → Prop} {s : Nat} {enc : α → List Value} {v : Value} {l : List α} (h : SlIn' w G s enc v l) (hs : ∀ b, G b → F b) : SlIn' w F s enc v l := by
 obtain ⟨A, a1, a2⟩ := h
 exact ⟨A, a1, fun b hb => hs b (a2 b hb)⟩
abbrev tfHd (nm : ByteArray) (v : SV) (ps : List ByteArray) : Tf := ⟨nm, v, ps, nilS, []⟩
theorem fs_add {l : List Tf} {nm : ByteArray} {v : SV} {ps : List ByteArray} (w : World) (F : Nat → Prop) (h : AllIn w F [fsA l, own 9 1 eS (sv v) ps]) : (fsA (l ++ [tfHd nm v ps])).pred w F := by
 obtain ⟨⟨_, a0, b0⟩, ⟨_, a1, b1⟩, _⟩ := h
 intro f hf
 rcases List.mem_append.1 hf with hf | hf
 ·exact (a0 f hf).up b0
 ·rw [List.mem_singleton.1 hf]
  exact ⟨own_in a1 b1, nil_in, trivial⟩
theorem tg_of {l : List Tf} {v : SV} (w : World) (F : Nat → Prop) (h : AllIn w F [own 63 3 eTf (sv v) l, fsA l]) : (tgA v l []).pred w F := by
 obtain ⟨⟨_, a0, b0⟩, ⟨_, a1, b1⟩, _⟩ := h
 exact ⟨⟨own_in a0 b0, fun f hf => (a1 f hf).up b1⟩, fun f hf => by simp at hf⟩
theorem tg_add {l o : List Tf} {v vb : SV} {f : Tf} {body : List Ty} (hf : f ∈ l) (w : World) (F : Nat → Prop) (h : AllIn w F [tgA v l o, own 53 5 eTy (sv vb) body, ysA body]) : (tgA v l (o ++ [⟨f.name, f.vp, f.ps, vb, body⟩])).pred w F := by
 obtain ⟨⟨_, a0, b0⟩, ⟨_, a1, b1⟩, ⟨_, a2, b2⟩, _⟩ := h
 refine ⟨⟨a0.1.1.up b0, fun f hf => (a0.1.2 f hf).up b0⟩, fun g hg => ?_⟩
 rcases List.mem_append.1 hg with hg | hg
 ·exact (a0.2 g hg).up b0
 ·rw [List.mem_singleton.1 hg]
  exact ⟨((a0.1.2 f hf).up b0).1, own_in a1 b1, ys_up a2 b2⟩
theorem tfs_of {l o : List Tf} {v vo : SV} (w : World) (F : Nat → Prop) (h : AllIn w F [own 63 3 eTf (sv vo) o, tgA v l o]) : (tfsA vo o).pred w F := by
 obtain ⟨⟨_, a0, b0⟩, ⟨_, a1, b1⟩, _⟩ := h
 exact ⟨own_in a0 b0, fun f hf => (a1.2 f hf).up b1⟩
theorem SlS.tg {w0 : World} {M H : Nat → Prop} {Γ R : Ctx} {k : Nat} {v : SV} {l o : List Tf} (h : cget Γ k = some (tgA v l o)) : SlS w0 M H Γ R 3 eTf (sv v) l := fun w hC => by
 obtain ⟨G, h1, _⟩ := hC.reads (.inl h)
 obtain ⟨A, a1, _⟩ := h1.1.1
 exact ⟨A, a1⟩
theorem SlS.tgp {w0 : World} {M H : Nat → Prop} {Γ R : Ctx} {k : Nat} {v : SV} {l o : List Tf} {f : Tf} (h : cget Γ k = some (tgA v l o)) (hf : f ∈ l) : SlS w0 M H Γ R 1 eS (sv f.vp) f.ps := fun w hC => by
 obtain ⟨G, h1, _⟩ := hC.reads (.inl h)
 obtain ⟨A, a1, _⟩ := (h1.1.2 f hf).1
 exact ⟨A, a1⟩
theorem tg2of2 {A : Asn} {v : SV} {l o : List Tf} : ∀ (i : Nat) (X : Asn), ([A, tfsA v l] : List Asn)[i]? = some X → ∃ Y, ([A, tgA v l o] : List Asn)[i]? = some Y ∧ ∀ w G, Y.pred w G → X.pred w G
 | 0, X, hX => ⟨A, rfl, by cases hX; exact fun _ _ h => h⟩
 | 1, X, hX => ⟨tgA v l o, rfl, by cases hX; exact fun _ _ h => h.1⟩
 | i + 2, X, hX => by simp at hX
/-- The contract of a function's block. -/
theorem gst_tg {e : Ge} (he : Gfine e) (o : List Tf) (s : Gs) (vn : SV) (hi : GInv s) : Spec Tryz.prog 32 [.pointer (some ⟨e.g, 0, none⟩), .int .i64 1] [row e.g 76 (gRow e.vl s vn e.c.me e.vf), own 9 1 eS (sv vn) s.names] [sl 1 eI (sv e.vl) e.c.l, tgA e.vf e.F o] (X := SV × List Ty × Gs × SV) (fun x => GYr e.c 3 s (erYs x.2.1) x.2.2.1 ∧ x.2.1.length ≤ 10) (fun x => sv x.1)
 (fun x => [row e.g 76 (gRow e.vl x.2.2.1 x.2.2.2 e.c.me e.vf), own 9 1 eS (sv x.2.2.2) x.2.2.1.names, own 53 5 eTy (sv x.1) x.2.1, ysA x.2.1]) (fun _ => []) :=
 Spec.roAll (hgy_all he 3 (by decide) s vn hi) tg2of2
structure Xh where
 i : Nat
 vf : SV
 F : List Tf
 s : Gs
structure Xbo where
 i : Nat
 vo : SV
 out : List Tf
 s : Gs
 vn : SV
 me : Nat
abbrev tfH (f : Tf) : ByteArray × List ByteArray := (f.name, f.ps)
theorem hds_next {l : List Int} {s0 s sb : Gs} {F : List Tf} {i jn : Nat} {nm : ByteArray} {jy : Int} {v : SV} (h : hds l s0 i = (F.map tfH, s)) (hnm : hNames[i]? = some nm) (hy : (jy, sb) = (if 0 < i then gN l 5 s else (0, s))) (hj : jy = (jn : Int)) : hds l s0 (i + 1) = ((F ++ [tfHd nm v (pNames.take jn)]).map tfH, sb) := by
 rw [hds]
 simp only [h, hd1]
 rw [← hy]
 simp only [List.map_append, List.map_cons, List.map_nil, tfH, tfHd]
 rw [List.getD_eq_getElem?_getD, hnm, hj]
 rfl
set_option maxHeartbeats 4000000 in
set_option maxRecDepth 100000 in
theorem made_spec (vl : SV) (l : List Int) (hl : l.length ≤ 1000) (hlo : ∀ x ∈ l, okI x) :
  Spec Tryz.prog 10 [sv vl] [] [sl 1 eI (sv vl) l] (X := SV × List Tf) (fun x => GMr l (x.2.map erF)) (fun x => .agg #[sv x.1]) (fun x => [tfsA x.1 x.2]) (fun _ => []) := by
 refine r_enter Tryz.func10 rfl Tryz.ntmps10 rfl fun w0 M H => ?_
 have hj0 := gN_bnd l (n := 4) (by decide) gs0
 have hmb := gMany_bd l
 refine r_seq (r_region ?_)
 refine r_alloc t29 rfl rfl fun b2 => ?_
 refine r_nil (r_seq (r_region (r_p (p_move rfl) rfl ?_)))
 refine r_p (p_build (parts := [(0, .tmp 12)]) t76 pl76 rfl rfl) rfl ?_
 refine r_boxA rfl rfl fun b14 => ?_
 refine r_p (p_assign rfl) rfl (r_nil (r_seq (r_region ?_)))
 refine r_bslice eS pNames (parts := [(0, .const (.string (ByteArray.mk #[112]))), (1, .const (.string (ByteArray.mk #[113]))), (2, .const (.string (ByteArray.mk #[114]))), (3, .const (.string (ByteArray.mk #[115])))]) Tryz.underlying58 t9 rfl (by decide) (by intro _; rfl) rfl (by decide) (by decide) rfl rfl rfl rfl fun v15 => ?_
 refine r_p (p_assign rfl) rfl (r_nil (r_seq (r_region ?_)))
 refine r_bslice eS hNames (parts := [(0, .const (.string (ByteArray.mk #[109, 97, 105, 110]))), (1, .const (.string (ByteArray.mk #[102]))), (2, .const (.string (ByteArray.mk #[103]))), (3, .const (.string (ByteArray.mk #[116, 119, 101, 108, 118, 101, 108, 101, 116, 116, 101, 114])))]) Tryz.underlying58 t9 rfl (by decide) (by intro _; rfl) rfl (by decide) (by decide) rfl rfl rfl rfl fun v16 => ?_
 refine r_p (p_assign rfl) rfl (r_nil (r_seq (r_region (r_p (p_move rfl) rfl ?_))))
 refine r_callN (xs := [.tmp 17, .const (.int .i64 4)]) (gnext_spec b14 vl nilS nilS ⟨l, 0, []⟩ hl hlo 4 (by decide) gs0) cb31 [14] [(false, 0)] [14] rfl rfl rfl rfl rfl rfl rfl rfl (fun _ _ => rfl) (fun _ _ _ => rfl) rfl (fun _ _ => ?_)
 refine r_p (p_bin rfl rfl (b_add (c := (gMany l : Int)) (by unfold gMany; rw [show (1 : Int) + (gN l 4 gs0).1 = (((1 + (gN l 4 gs0).1).toNat : Nat) : Int) by omega]; exact w_i64 (by omega) (by omega)))) rfl ?_
 refine r_p (p_assign rfl) rfl (r_nil (r_seq (r_seq (r_region (r_p (p_assign rfl) rfl (r_nil (r_block ?_)))))))
 refine r_nilown 60 (α := Tf) (S := 63) (s := 3) (enc := eTf) ?_
 refine r_collect 40 [] (L := []) (C := fsA []) rfl (fun _ _ _ f hf => by simp at hf) ?_
 refine r_loop (X := Xh) (fun x => x.i ≤ gMany l ∧ hds l (gN l 4 gs0).2 x.i = (x.F.map tfH, x.s) ∧ (∀ f ∈ x.F, f.vb = nilS ∧ f.body = [])) (fun x => [(2, .pointer (some ⟨b2, 0, none⟩)), (3, .pointer (some ⟨b14, 0, none⟩)), (4, sv v15), (5, sv v16), (6, .int .i64 (gMany l : Int)), (7, .int .i64 (x.i : Int))]) (fun x => [(2, row b2 29 [sv nilS]), (14, row b14 76 (gRow vl (x.s) nilS 0 x.vf)), (15, own 9 1 eS (sv v15) pNames), (16, own 9 1 eS (sv v16) hNames), (60, own 63 3 eTf (sv x.vf) x.F), (40, fsA x.F)]) (fun x => [(0, sl 1 eI (sv vl) l)]) (fun x => gMany l - x.i) ⟨0, nilS, [], (gN l 4 gs0).2⟩ ⟨Nat.zero_le _, rfl, fun f hf => by simp at hf⟩ rfl rfl rfl (fun x hx0 => ?_)
 obtain ⟨i, vf, F, s⟩ := x
 obtain ⟨n1, n2, n3⟩ := hx0
 dsimp only at n1 n2 n3 ⊢
 have hFl : F.length = i := by have h := hds_len l (gN l 4 gs0).2 i; rw [n2, List.length_map] at h; exact h
 refine r_seq (r_seq (r_region (r_p (p_move rfl) rfl (r_p (p_move rfl) rfl ?_))))
 refine r_p (p_bin rfl rfl b_lt) rfl ?_
 refine r_nil ?_
 refine r_cond rfl (fun h1 => ?_) (fun h1 => ?_)
 ·(try simp only [decide_eq_true_eq, decide_eq_false_iff_not, Bool.and_eq_true, Bool.or_eq_true, Bool.and_eq_false_iff, Bool.or_eq_false_iff, Bool.not_eq_true, Bool.not_eq_false, Bool.not_eq_true', Bool.not_eq_false', Bool.not_not, bne_iff_ne, beq_iff_eq] at h1)
  have hi2 : i < gMany l := by omega
  refine r_skip (r_seq (r_block (r_seq (r_region (r_p (p_assign rfl) rfl (r_nil ?_))))))
  refine r_seq_cut (X := Int × Gs) (fun y => y = (if 0 < i then gN l 5 s else (0, s))) (fun y => [(2, .pointer (some ⟨b2, 0, none⟩)), (3, .pointer (some ⟨b14, 0, none⟩)), (4, sv v15), (5, sv v16), (6, .int .i64 (gMany l : Int)), (7, .int .i64 (i : Int)), (8, .int .i64 y.1)]) (fun y => [(2, row b2 29 [sv nilS]), (14, row b14 76 (gRow vl (y.2) nilS 0 vf)), (15, own 9 1 eS (sv v15) pNames), (16, own 9 1 eS (sv v16) hNames), (60, own 63 3 eTf (sv vf) F), (40, fsA F)]) (fun y => [(0, sl 1 eI (sv vl) l)]) ?_ (fun y hy => ?_)
  ·refine r_seq (r_region (r_p (p_move rfl) rfl ?_))
   refine r_p (p_bin rfl rfl b_gt) rfl ?_
   refine r_nil ?_
   refine r_cond rfl (fun h2 => ?_) (fun h2 => ?_)
   ·(try simp only [decide_eq_true_eq, decide_eq_false_iff_not, Bool.and_eq_true, Bool.or_eq_true, Bool.and_eq_false_iff, Bool.or_eq_false_iff, Bool.not_eq_true, Bool.not_eq_false, Bool.not_eq_true', Bool.not_eq_false', Bool.not_not, bne_iff_ne, beq_iff_eq] at h2)
    have hi0 : 0 < i := by omega
    refine r_region (r_p (p_move rfl) rfl ?_)
    refine r_callN (xs := [.tmp 27, .const (.int .i64 5)]) (gnext_spec b14 vl nilS vf ⟨l, 0, []⟩ hl hlo 5 (by decide) s) cb31 [14] [(false, 0)] [14] rfl rfl rfl rfl rfl rfl rfl rfl (fun _ _ => rfl) (fun _ _ _ => rfl) rfl (fun _ _ => ?_)
    refine r_p (p_assign rfl) rfl (r_nil ?_)
    refine r_here (gN l 5 s) (by rw [if_pos hi0]) rfl rfl rfl
   ·(try simp only [decide_eq_true_eq, decide_eq_false_iff_not, Bool.and_eq_true, Bool.or_eq_true, Bool.and_eq_false_iff, Bool.or_eq_false_iff, Bool.not_eq_true, Bool.not_eq_false, Bool.not_eq_true', Bool.not_eq_false', Bool.not_not, bne_iff_ne, beq_iff_eq] at h2)
    have hi0 : ¬ 0 < i := by omega
    refine r_skip ?_
    refine r_here (0, s) (by rw [if_neg hi0]) rfl rfl rfl
  ·obtain ⟨jy, sb⟩ := y
   dsimp only
   have hjb : 0 ≤ jy ∧ jy ≤ 4 := by
    split at hy
    ·have := gN_bnd l (n := 5) (by decide) s
     have h := congrArg Prod.fst hy
     dsimp only at h
     omega
    ·have h := congrArg Prod.fst hy
     dsimp only at h
     omega
   obtain ⟨jn, hjn⟩ : ∃ jn : Nat, jy = (jn : Int) := ⟨jy.toNat, by omega⟩
   have hjl : jn ≤ pNames.length := by show jn ≤ 4; omega
   have hiN : i < hNames.length := by show i < 4; omega
   obtain ⟨nm, hnm⟩ : ∃ nm, hNames[i]? = some nm := ⟨_, List.getElem?_eq_getElem hiN⟩
   refine r_draw [29, 30, 31, 32, 33, 34, 35, 36, 37, 38, 39, 40, 41, 42, 43, 44, 45, 46, 47] _ rfl (stg_mem (V := [(0, 29, _), (1, 30, _), (2, 31, _), (3, 32, _), (4, 33, _), (5, 34, _), (6, 35, _), (7, 36, _), (8, 37, _), (10, 39, _), (11, 40, _), (12, 41, _)]) [0, 1, 2, 3, 4, 5, 6, 7, 8, 10, 11, 12] 9 [9] [] (fun v38 => []) rfl rfl (prs_cons (pri rfl (p_move rfl)) (prs_cons (pri rfl (p_move rfl)) (prs_cons (pri rfl (p_nilCheck rfl)) (prs_cons (pri rfl (p_field0 fo76_7 rfl)) (prs_cons (pri rfl (p_load1 t27 rfl rfl (g_row1 (k := 14) rfl rfl))) (prs_cons (pri rfl (p_move rfl)) (prs_cons (pri rfl (p_move rfl)) (prs_cons (pri rfl (p_idx_sl (j := i) Tryz.underlying58 t9 rfl rfl (hs_own (k := 16) rfl) rfl hiN)) (prs_cons (pri rfl (p_load1 t9 rfl rfl (g_el' (hs_own (k := 16) rfl) (by intro _; rfl) hnm (by rfl)))) (prs_cons (pri rfl (p_move rfl)) (prs_cons (pri rfl (p_move rfl)) (prs_cons (pri rfl (p_slice_hi (j := jn) Tryz.underlying58 t9 rfl rfl (hs_own (k := 15) rfl) hjn hjl)) prs_nil)))))))))))) rfl rfl rfl rfl rfl rfl rfl rfl rfl rfl rfl (fun _ _ => rfl) rfl (ms_bslice0 eS Tryz.underlying58 t9) (fun v38 _ => stg_mem [0, 1, 2, 3, 4, 5, 6, 7, 8, 10, 11, 12] 13 [13, 12, 11, 10, 9] [14] (fun v42 => [(14, 43, _)]) rfl rfl (prs_cons (pri rfl (p_move rfl)) (prs_cons (pri rfl (p_move rfl)) (prs_cons (pri rfl (p_nilCheck rfl)) (prs_cons (pri rfl (p_field0 fo76_7 rfl)) (prs_cons (pri rfl (p_load1 t27 rfl rfl (g_row1 (k := 14) rfl rfl))) (prs_cons (pri rfl (p_move rfl)) (prs_cons (pri rfl (p_move rfl)) (prs_cons (pri rfl (p_idx_sl (j := i) Tryz.underlying58 t9 rfl rfl (hs_own (k := 16) rfl) rfl hiN)) (prs_cons (pri rfl (p_load1 t9 rfl rfl (g_el' (hs_own (k := 16) rfl) (by intro _; rfl) hnm (by rfl)))) (prs_cons (pri rfl (p_move rfl)) (prs_cons (pri rfl (p_move rfl)) (prs_cons (pri rfl (p_slice_hi (j := jn) Tryz.underlying58 t9 rfl rfl (hs_own (k := 15) rfl) hjn hjl)) prs_nil)))))))))))) rfl rfl rfl rfl rfl rfl rfl rfl rfl rfl rfl (fun _ _ => rfl) rfl (ms_appendG 38 Tryz.underlying58 t9 rfl (by decide) (fun _ => rfl) (fun _ => rfl) rfl rfl rfl own_id (SlS.hi (SlS.of (hs_own (k := 15) rfl)) hjl) (by simp only [List.length_nil, List.length_take]; omega) (by unfold maxLen; simp only [List.length_nil, List.length_take]; omega)) (fun v42 _ => stg_mem [14, 0, 1, 2, 3, 4, 5, 6, 7, 8] 15 [15, 14, 13, 12, 11, 10, 9, 8, 7, 6, 5] [] (fun v44 => []) rfl rfl (prs_cons (pri rfl (p_build (parts := [(0, .tmp 37), (1, .tmp 42)]) t63 pl63 rfl rfl)) (prs_cons (pri rfl (p_move rfl)) (prs_cons (pri rfl (p_move rfl)) (prs_cons (pri rfl (p_nilCheck rfl)) (prs_cons (pri rfl (p_field0 fo76_7 rfl)) (prs_cons (pri rfl (p_load1 t27 rfl rfl (g_row1 (k := 14) rfl rfl))) (prs_cons (pri rfl (p_move rfl)) (prs_cons (pri rfl (p_move rfl)) (prs_cons (pri rfl (p_idx_sl (j := i) Tryz.underlying58 t9 rfl rfl (hs_own (k := 16) rfl) rfl hiN)) (prs_cons (pri rfl (p_load1 t9 rfl rfl (g_el' (hs_own (k := 16) rfl) (by intro _; rfl) hnm (by rfl)))) prs_nil)))))))))) rfl rfl rfl rfl rfl rfl rfl rfl rfl rfl rfl (fun _ _ => rfl) rfl (ms_bslice1 eTf (tfHd nm v42 (pNames.take jn)) Tryz.underlying27 t63 rfl (by decide) (by decide) rfl rfl rfl) (fun v44 _ => stg_mem [0, 1, 2, 3, 4] 16 [16, 15, 14, 13, 12, 11, 10, 9, 8, 7, 6, 5, 4, 3, 2, 1] [17, 18] (fun v45 => [(17, 46, _), (18, 47, _)]) rfl rfl (prs_cons (pri rfl (p_move rfl)) (prs_cons (pri rfl (p_move rfl)) (prs_cons (pri rfl (p_nilCheck rfl)) (prs_cons (pri rfl (p_field0 fo76_7 rfl)) (prs_cons (pri rfl (p_load1 t27 rfl rfl (g_row1 (k := 14) rfl rfl))) prs_nil))))) rfl rfl rfl rfl rfl rfl rfl rfl rfl rfl rfl (fun _ _ => rfl) rfl (ms_append 60 Tryz.underlying27 t63 rfl (by decide) (fun _ => rfl) (fun _ => rfl) rfl rfl rfl (hs_own (k := 44) rfl) (by simp only [List.length_singleton]; omega) (by unfold maxLen; simp only [List.length_singleton]; omega)) (fun v45 _ => stg_mem0 [17, 18, 0] 19 [19, 18, 17, 16, 15, 14, 13, 12, 11, 10, 9, 8, 7, 6, 5, 4, 3, 2, 1, 0] [] (fun _ => []) rfl rfl (prs_cons (pri rfl (p_nilCheck rfl)) (prs_cons (pri rfl (p_field0 fo76_7 rfl)) (prs_cons (pri rfl (p_move rfl)) prs_nil))) rfl rfl rfl rfl rfl rfl rfl rfl rfl (fun _ _ => rfl) rfl (ms_store_row (k := 14) t27 rfl rfl rfl rfl rfl rfl rfl rfl) (fun _ _ => stg_end [] rfl rfl prs_nil rfl rfl rfl ?_))))))
   refine r_region (r_p (p_move rfl) rfl ?_)
   refine r_p (p_bin rfl rfl (b_add (by first | exact w_i64 (by omega) (by omega) | rfl))) rfl ?_
   refine r_p (p_assign rfl) rfl (r_nil ?_)
   refine r_collect 40 [40, 38] (C := fsA (F ++ [tfHd nm v42 (pNames.take jn)])) rfl fs_add ?_
   refine r_here ⟨i + 1, v45, F ++ [tfHd nm v42 (pNames.take jn)], sb⟩ ⟨⟨by dsimp only; omega, hds_next n2 hnm hy hjn, fun f hf => by
     rcases List.mem_append.1 hf with hf | hf
     ·exact n3 f hf
     ·rw [List.mem_singleton.1 hf]; exact ⟨rfl, rfl⟩⟩, by dsimp only; omega⟩ rfl rfl rfl
 ·(try simp only [decide_eq_true_eq, decide_eq_false_iff_not, Bool.and_eq_true, Bool.or_eq_true, Bool.and_eq_false_iff, Bool.or_eq_false_iff, Bool.not_eq_true, Bool.not_eq_false, Bool.not_eq_true', Bool.not_eq_false', Bool.not_not, bne_iff_ne, beq_iff_eq] at h1)
  have hie : i = gMany l := by omega
  have hH : gHds l = (F.map tfH, s) := by rw [← n2, hie]; rfl
  have hFh : (gHds l).1 = F.map fun f => (f.name, f.ps) := by rw [hH]
  have hs0 : (gHds l).2 = s := by rw [hH]
  have hps : ∀ f ∈ F, f.ps.length ≤ 100 := fun f hf => by
   have h := hds_ok l (gN l 4 gs0).2 i (tfH f) (by rw [n2]; exact List.mem_map_of_mem hf)
   have := h.2.1
   show (tfH f).2.length ≤ 100
   omega
  refine r_exit (r_seq (r_region ?_))
  refine r_p (p_build (parts := []) t29 pl29 rfl rfl) rfl ?_
  refine r_alloc t29 rfl rfl fun b9 => ?_
  refine r_store_all (k := 9) t29 rfl rfl rfl rfl rfl rfl ?_
  refine r_nil (r_seq (r_seq (r_region (r_p (p_assign rfl) rfl (r_nil (r_block ?_))))))
  refine r_collect 43 [60, 40] (C := tgA vf F []) rfl tg_of ?_
  refine r_nilown 60 (α := Tf) (S := 63) (s := 3) (enc := eTf) ?_
  refine r_loop (X := Xbo) (fun x => x.i ≤ gMany l ∧ GBr l (gHds l).1 (gHds l).2 x.i (x.out.map erF) x.s ∧ x.out.length = x.i) (fun x => [(2, .pointer (some ⟨b2, 0, none⟩)), (3, .pointer (some ⟨b14, 0, none⟩)), (6, .int .i64 (gMany l : Int)), (9, .pointer (some ⟨b9, 0, none⟩)), (10, .int .i64 (x.i : Int))]) (fun x => [(2, row b2 29 [sv nilS]), (14, row b14 76 (gRow vl (x.s) x.vn x.me vf)), (9, row b9 29 [sv x.vo]), (60, own 63 3 eTf (sv x.vo) x.out), (43, tgA vf F x.out)]) (fun x => [(0, sl 1 eI (sv vl) l)]) (fun x => gMany l - x.i) ⟨0, nilS, [], s, nilS, 0⟩ ⟨Nat.zero_le _, hs0 ▸ .zero, rfl⟩ rfl rfl rfl (fun x hx0 => ?_)
  obtain ⟨i, vo, out, s1, vn, me⟩ := x
  obtain ⟨m1, m2, m3⟩ := hx0
  dsimp only at m1 m2 m3 ⊢
  refine r_seq (r_seq (r_region (r_p (p_move rfl) rfl (r_p (p_move rfl) rfl ?_))))
  refine r_p (p_bin rfl rfl b_lt) rfl ?_
  refine r_nil ?_
  refine r_cond rfl (fun h3 => ?_) (fun h3 => ?_)
  ·(try simp only [decide_eq_true_eq, decide_eq_false_iff_not, Bool.and_eq_true, Bool.or_eq_true, Bool.and_eq_false_iff, Bool.or_eq_false_iff, Bool.not_eq_true, Bool.not_eq_false, Bool.not_eq_true', Bool.not_eq_false', Bool.not_not, bne_iff_ne, beq_iff_eq] at h3)
   have hi3 : i < gMany l := by omega
   have hiF : i < F.length := by omega
   obtain ⟨f, hfi⟩ : ∃ f, F[i]? = some f := ⟨_, List.getElem?_eq_getElem hiF⟩
   have hfm := List.mem_of_getElem? hfi
   have hfp := hps f hfm
   have hsi : GInv { s1 with left := 8, nodes := 150, vars := 0, names := f.ps } := ⟨Int.le_refl _, by show (0 : Int) ≤ 8; decide, by show (f.ps.length : Int) ≤ 100 + 0; omega, by show (8 : Int) ≤ 1000; decide⟩
   refine r_skip (r_seq (r_block (r_seq (r_region (r_p (p_move rfl) rfl (r_p (p_move rfl) rfl (r_p (p_nilCheck rfl) rfl ?_)))))))
   refine r_p (p_field0 fo76_6 rfl) rfl ?_
   refine r_store_row (k := 14) t3 rfl rfl rfl rfl rfl rfl rfl rfl ?_
   refine r_nil (r_seq (r_region (r_p (p_move rfl) rfl (r_p (p_nilCheck rfl) rfl ?_))))
   refine r_p (p_field0 fo76_2 rfl) rfl ?_
   refine r_store_row (k := 14) t3 rfl rfl rfl rfl rfl rfl rfl rfl ?_
   refine r_nil (r_seq (r_region (r_p (p_move rfl) rfl (r_p (p_nilCheck rfl) rfl ?_))))
   refine r_p (p_field0 fo76_3 rfl) rfl ?_
   refine r_store_row (k := 14) t3 rfl rfl rfl rfl rfl rfl rfl rfl ?_
   refine r_nil (r_seq (r_region (r_p (p_move rfl) rfl (r_p (p_nilCheck rfl) rfl ?_))))
   refine r_p (p_field0 fo76_5 rfl) rfl ?_
   refine r_store_row (k := 14) t3 rfl rfl rfl rfl rfl rfl rfl rfl ?_
   refine r_nil (r_seq (r_region (r_p (p_move rfl) rfl ?_)))
   refine r_bslice0 eS Tryz.underlying58 t9 rfl fun v68 => ?_
   refine r_p (p_move rfl) rfl (r_p (p_nilCheck rfl) rfl ?_)
   refine r_p (p_field0 fo76_7 rfl) rfl ?_
   refine r_p (p_load1 t27 rfl rfl (g_row1 (k := 14) rfl rfl)) rfl ?_
   refine r_p (p_move rfl) rfl ?_
   refine r_p (p_idx_slS (j := i) Tryz.underlying27 t63 rfl rfl (SlS.tg (k := 43) rfl) rfl hiF) rfl ?_
   refine r_p (p_field fo63_1 rfl) rfl ?_
   refine r_p (p_load1 t58 rfl rfl (g_elpS (SlS.tg (k := 43) rfl) (by intro _; rfl) hfi rfl)) rfl ?_
   refine r_appendG 68 Tryz.underlying58 t9 rfl (by decide) (fun _ => rfl) (fun _ => rfl) rfl rfl rfl own_id (SlS.tgp (k := 43) rfl hfm) (by simp only [List.length_nil]; omega) (by unfold maxLen; simp only [List.length_nil]; omega) rfl fun v77 => ?_
   refine r_p (p_nilCheck rfl) rfl ?_
   refine r_p (p_field0 fo76_4 rfl) rfl ?_
   refine r_store_row (k := 14) t58 rfl rfl rfl rfl rfl rfl rfl rfl ?_
   refine r_nil (r_seq (r_region (r_p (p_move rfl) rfl (r_p (p_nilCheck rfl) rfl ?_))))
   refine r_p (p_field0 fo76_7 rfl) rfl ?_
   refine r_p (p_load1 t27 rfl rfl (g_row1 (k := 14) rfl rfl)) rfl ?_
   refine r_p (p_move rfl) rfl ?_
   refine r_p (p_idx_slS (j := i) Tryz.underlying27 t63 rfl rfl (SlS.tg (k := 43) rfl) rfl hiF) rfl ?_
   refine r_p (p_loadA t63 rfl rfl rfl (g_elS' (SlS.tg (k := 43) rfl) (by intro _; rfl) hfi (by rfl))) rfl ?_
   refine r_alloc t63 rfl rfl fun b11 => ?_
   refine r_store_all (k := 11) t63 rfl rfl rfl rfl rfl rfl ?_
   refine r_nil (r_seq (r_region (r_p (p_move rfl) rfl ?_)))
   refine r_callN (xs := [.tmp 87, .const (.int .i64 1)]) (gst_tg (e := ⟨b14, vl, v77, vf, ⟨l, i, (gHds l).1⟩, F⟩) ⟨hl, hlo, hFh, by dsimp only; omega, by dsimp only; omega, hps⟩ out { s1 with left := 8, nodes := 150, vars := 0, names := f.ps } v77 hsi) cb32 [14, 68] [(false, 0), (true, 43)] [14, 70, 61, 62] rfl rfl rfl rfl rfl rfl rfl rfl (fun _ _ => rfl) (fun _ _ _ => rfl) rfl (fun ⟨vb, body, s2, vn2⟩ hbd => ?_)
   dsimp only at hbd ⊢
   refine r_p (p_field0 fo63_2 rfl) rfl ?_
   refine r_store_row (k := 11) t51 rfl rfl rfl rfl rfl rfl rfl rfl ?_
   refine r_nil (r_region ?_)
   refine r_p (p_field0 fo29_0 rfl) rfl ?_
   refine r_p (p_load1 t27 rfl rfl (g_row1 (k := 9) rfl rfl)) rfl ?_
   refine r_p (p_loadA t63 rfl rfl rfl (g_all (k := 11) rfl)) rfl ?_
   refine r_bslice1 eTf (⟨f.name, f.vp, f.ps, vb, body⟩ : Tf) Tryz.underlying27 t63 rfl (by decide) (by decide) rfl rfl rfl rfl fun v93 => ?_
   refine r_append 60 Tryz.underlying27 t63 rfl (by decide) (fun _ => rfl) (fun _ => rfl) rfl rfl rfl (hs_own (k := 93) rfl) (by simp only [List.length_singleton]; omega) (by unfold maxLen; simp only [List.length_singleton]; omega) rfl fun v94 => ?_
   refine r_p (p_field0 fo29_0 rfl) rfl ?_
   refine r_store_row (k := 9) t27 rfl rfl rfl rfl rfl rfl rfl rfl ?_
   refine r_nil (r_region (r_p (p_move rfl) rfl ?_))
   refine r_p (p_bin rfl rfl (b_add (by first | exact w_i64 (by omega) (by omega) | rfl))) rfl ?_
   refine r_p (p_assign rfl) rfl (r_nil ?_)
   refine r_collect 43 [43, 61, 62] (C := tgA vf F (out ++ [⟨f.name, f.vp, f.ps, vb, body⟩])) rfl (tg_add hfm) ?_
   refine r_here ⟨i + 1, v94, out ++ [⟨f.name, f.vp, f.ps, vb, body⟩], s2, vn2, i⟩ ⟨⟨by dsimp only; omega, by dsimp only; rw [List.map_append]; exact .step (f := (f.name, f.ps)) m2 (by rw [hFh, List.getElem?_map, hfi]; rfl) hbd.1, by dsimp only; rw [List.length_append, m3]; rfl⟩, by dsimp only; omega⟩ rfl rfl rfl
  ·(try simp only [decide_eq_true_eq, decide_eq_false_iff_not, Bool.and_eq_true, Bool.or_eq_true, Bool.and_eq_false_iff, Bool.or_eq_false_iff, Bool.not_eq_true, Bool.not_eq_false, Bool.not_eq_true', Bool.not_eq_false', Bool.not_not, bne_iff_ne, beq_iff_eq] at h3)
   have hme : i = gMany l := by omega
   refine r_exit (r_seq (r_region ?_))
   refine r_p (p_loadA t29 rfl rfl rfl (g_all (k := 9) rfl)) rfl ?_
   refine r_store_all (k := 2) t29 rfl rfl rfl rfl rfl rfl ?_
   refine r_nil (r_cret ?_)
   refine r_collect 63 [60, 43] (C := tfsA vo out) rfl tfs_of ?_
   refine r_ret (vo, out) ⟨s1, hme ▸ m2⟩ rfl (rs1 (rv_cellA t29 rfl rfl rfl (g_all (k := 2) rfl))) rfl [63] [] rfl rfl rfl
theorem COk.mv {w0 : World} {M H : Nat → Prop} {Γ R : Ctx} {w : World} {k k' : Nat} {A : Asn} (h : COk w0 M H Γ R w) (hk : cget Γ k = some A) (hne : Nat.beq k' k = false) : COk w0 M H ((k', A) :: (k, emp) :: Γ) R w := by
 obtain ⟨F, hF⟩ := h
 have hne' : k' ≠ k := fun e => by subst e; simp at hne
 have hsub : ∀ j b, (if j = k' then F k else if j = k then fun _ => False else F j) b → (j = k' ∧ F k b) ∨ (j ≠ k' ∧ j ≠ k ∧ F j b) := by
  intro j b hb
  split at hb
  ·exact .inl ⟨by assumption, hb⟩
  ·split at hb
   ·exact hb.elim
   ·exact .inr ⟨by assumption, by assumption, hb⟩
 refine ⟨fun j => if j = k' then F k else if j = k then fun _ => False else F j, hF.touch, ?_, ?_, ?_, ?_, ?_⟩
 ·intro j B hj
  simp only [cget] at hj
  cases h1 : Nat.beq k' j with
  | true =>
   rw [h1] at hj
   simp at hj
   subst hj
   have := Nat.eq_of_beq_eq_true h1
   subst this
   simp only [if_true]
   exact hF.has k A hk
  | false =>
   rw [h1] at hj
   have hj1 : j ≠ k' := fun e => by subst e; simp at h1
   cases h2 : Nat.beq k j with
   | true =>
    rw [h2] at hj
    simp at hj
    subst hj
    have := Nat.eq_of_beq_eq_true h2
    subst this
    simp only [hj1, if_false, if_true]
    exact fun b hb => hb
   | false =>
    rw [h2] at hj
    have hj2 : j ≠ k := fun e => by subst e; simp at h2
    simp only [hj1, hj2, if_false]
    exact hF.has j B hj
 ·intro j b hb
  rcases hsub j b hb with ⟨_, hb⟩ | ⟨_, _, hb⟩ <;> exact hF.lt _ b hb
 ·intro j b hb hlt
  rcases hsub j b hb with ⟨_, hb⟩ | ⟨_, _, hb⟩ <;> exact hF.mine _ b hb hlt
 ·intro i j b hi hj
  rcases hsub i b hi with ⟨e1, h1⟩ | ⟨e1, e2, h1⟩ <;> rcases hsub j b hj with ⟨f1, h2⟩ | ⟨f1, f2, h2⟩
  ·rw [e1, f1]
  ·exact absurd (hF.apart k j b h1 h2).symm f2
  ·exact absurd (hF.apart i k b h1 h2) e2
  ·exact hF.apart i j b h1 h2
 ·intro j B hj
  obtain ⟨G, g1, g2⟩ := hF.ro j B hj
  refine ⟨G, g1, fun b hb => ⟨(g2 b hb).1, fun i hi => ?_, (g2 b hb).2.2⟩⟩
  rcases hsub i b hi with ⟨_, hb'⟩ | ⟨_, _, hb'⟩ <;> exact (g2 b hb).2.1 _ hb'
theorem r_mv {N : Nat} {w0 : World} {M H : Nat → Prop} {E : Env} {Γ R : Ctx} (k k' : Nat) {A : Asn} {Rel : Act → World → Prop} (hk : cget Γ k = some A) (hne : Nat.beq k' k = false) (h : At N w0 M H E ((k', A) :: (k, emp) :: Γ) R Rel) : At N w0 M H E Γ R Rel :=
 h.weak (fun _ h => h) fun w hC => hC.mv hk hne
theorem if_lt_succ {m i : Nat} (h : ¬ m = i) {α : Type} {a b : α} : (if m < i + 1 then a else b) = (if m < i then a else b) := by
 by_cases h2 : m < i
 ·rw [if_pos h2, if_pos (by omega)]
 ·rw [if_neg h2, if_neg (by omega)]
/-- The lists of functions, but one, can be read, without the parts of the statements. -/
def shA (m : Nat) (l : List Tf) : Asn := ⟨fun w F => ∀ (j : Nat) (f : Tf), l[j]? = some f → j ≠ m → SlIn' w F 1 eS (sv f.vp) f.ps ∧ SlIn' w F 5 eTy (sv f.vb) f.body, fun h hs j f hj hm => by
 obtain ⟨a, b⟩ := h j f hj hm
 exact ⟨a.stable hs, b.stable hs⟩⟩
/-- Functions with other lists of the same content. -/
def CpIs (fs l : List Tf) : Prop := ∀ (j : Nat) (f : Tf), fs[j]? = some f → ∃ p b, l[j]? = some { f with vp := p, vb := b }
def fNil : Tf := ⟨oNil, nilS, [], nilS, []⟩
def fat (fs : List Tf) (m : Nat) : Tf := (fs[m]?).getD fNil
theorem sh_nil {m : Nat} (w : World) (F : Nat → Prop) : (shA m []).pred w F := fun j f hj => by simp at hj
theorem sh_snoc {m : Nat} {l : List Tf} {f : Tf} (w : World) (F : Nat → Prop) (h : AllIn w F [shA m l, own 9 1 eS (sv f.vp) f.ps, own 53 5 eTy (sv f.vb) f.body]) : (shA m (l ++ [f])).pred w F := by
 obtain ⟨⟨_, a0, b0⟩, ⟨_, a1, b1⟩, ⟨_, a2, b2⟩, _⟩ := h
 intro j g hj hm
 rw [List.getElem?_append] at hj
 split at hj
 ·exact ⟨(a0 j g hj hm).1.mono b0, (a0 j g hj hm).2.mono b0⟩
 ·have : g = f := by
   cases hk : j - l.length with
   | zero => rw [hk] at hj; exact (Option.some.inj hj).symm
   | succ k => rw [hk] at hj; simp at hj
  subst this
  exact ⟨own_in a1 b1, own_in a2 b2⟩
theorem sh_skip {m : Nat} {l : List Tf} {f : Tf} (hm : l.length = m) : ∀ w G, (shA m l).pred w G → (shA m (l ++ [f])).pred w G := fun w G h j g hj hjm => by
 rw [List.getElem?_append] at hj
 split at hj
 ·exact h j g hj hjm
 ·have : ¬ j - l.length = 0 := by omega
  cases hk : j - l.length with
  | zero => exact absurd hk this
  | succ k => rw [hk] at hj; simp at hj
structure Cp where
 i : Nat
 v : SV
 l : List Tf
 pm : SV
 bm : SV
def CpI (fs : List Tf) (m : Nat) (x : Cp) : Prop := x.i ≤ fs.length ∧ x.l.length = x.i ∧ CpIs (fs.take x.i) x.l ∧ (m < x.i → x.l[m]? = some { fat fs m with vp := x.pm, vb := x.bm }) ∧ (x.i ≤ m → x.pm = nilS ∧ x.bm = nilS)
theorem cp_snoc {fs l : List Tf} {i : Nat} {f : Tf} {p b : SV} (hf : fs[i]? = some f) (hl : l.length = i) (h : CpIs (fs.take i) l) : CpIs (fs.take (i + 1)) (l ++ [{ f with vp := p, vb := b }]) := fun j g hj => by
 rw [List.getElem?_take] at hj
 split at hj
 ·rename_i hji
  by_cases h2 : j < i
  ·obtain ⟨p, b, hq⟩ := h j g (by rw [List.getElem?_take, if_pos h2]; exact hj)
   exact ⟨p, b, by rw [List.getElem?_append_left (by omega)]; exact hq⟩
  ·obtain rfl : j = i := by omega
   rw [hf] at hj
   cases hj
   exact ⟨p, b, by rw [List.getElem?_append_right (by omega), hl]; simp⟩
 ·cases hj
set_option maxHeartbeats 8000000 in
set_option maxRecDepth 100000 in
theorem copy_spec (vp : SV) (fs : List Tf) (m : Nat) (hg : GP fs) :
  Spec Tryz.prog 33 [.agg #[sv vp]] [] [tfsA vp fs] (X := Cp) (fun x => x.i = fs.length ∧ CpI fs m x) (fun x => .agg #[sv x.v]) (fun x => [shA m x.l, own 63 3 eTf (sv x.v) x.l, own 9 1 eS (sv x.pm) (if m < fs.length then (fat fs m).ps else []), own 53 5 eTy (sv x.bm) (if m < fs.length then (fat fs m).body else [])]) (fun _ => []) := by
 refine r_enter Tryz.func33 rfl Tryz.ntmps33 rfl fun w0 M H => ?_
 refine r_more 0 1 rfl tfs_sl ?_
 have hfl := hg.1
 refine r_seq (r_region ?_)
 refine r_boxA rfl rfl fun b1 => ?_
 refine r_alloc t29 rfl rfl fun b2 => ?_
 refine r_nil (r_seq (r_region ?_))
 refine r_p (p_build (parts := []) t29 pl29 rfl rfl) rfl ?_
 refine r_alloc t29 rfl rfl fun b3 => ?_
 refine r_store_all (k := 3) t29 rfl rfl rfl rfl rfl rfl ?_
 refine r_nil (r_seq (r_seq (r_region (r_p (p_assign rfl) rfl (r_nil (r_block ?_))))))
 refine r_nilown 41 (α := Tf) (S := 63) (s := 3) (enc := eTf) ?_
 refine r_nilown 42 (α := ByteArray) (S := 9) (s := 1) (enc := eS) ?_
 refine r_nilown 43 (α := Ty) (S := 53) (s := 5) (enc := eTy) ?_
 refine r_collect 40 [] (L := []) (C := shA m []) rfl (fun w F _ => sh_nil w F) ?_
 refine r_loop (X := Cp) (fun x => CpI fs m x) (fun x => [(1, .pointer (some ⟨b1, 0, none⟩)), (2, .pointer (some ⟨b2, 0, none⟩)), (3, .pointer (some ⟨b3, 0, none⟩)), (4, .int .i64 (x.i : Int))]) (fun x => [(1, row b1 29 [sv vp]), (3, row b3 29 [sv x.v]), (40, shA m x.l), (41, own 63 3 eTf (sv x.v) x.l), (42, own 9 1 eS (sv x.pm) (if m < x.i then (fat fs m).ps else [])), (43, own 53 5 eTy (sv x.bm) (if m < x.i then (fat fs m).body else [])), (2, row b2 29 [.slice none 0 0])]) (fun x => [(0, tfsA vp fs), (1, sl 3 eTf (sv vp) fs)]) (fun x => fs.length - x.i) ⟨0, nilS, [], nilS, nilS⟩ ⟨Nat.zero_le _, rfl, fun j f hj => by simp at hj, fun h => by simp at h, fun _ => ⟨rfl, rfl⟩⟩ rfl rfl rfl (fun x hx0 => ?_)
 obtain ⟨i, v, l, pm, bm⟩ := x
 obtain ⟨n1, n2, n3, n4, n5⟩ := hx0
 dsimp only at n1 n2 n3 n4 n5 ⊢
 refine r_seq (r_seq (r_region (r_p (p_move rfl) rfl ?_)))
 refine r_p (p_field0 fo29_0 rfl) rfl ?_
 refine r_p (p_load1 t27 rfl rfl (g_row1 (k := 1) rfl rfl)) rfl ?_
 refine r_p (p_len_sl Tryz.underlying27 rfl (hs_sl (k := 1) rfl)) rfl ?_
 refine r_p (p_bin rfl rfl b_lt) rfl ?_
 refine r_nil ?_
 refine r_cond rfl (fun h1 => ?_) (fun h1 => ?_)
 ·(try simp only [decide_eq_true_eq, decide_eq_false_iff_not, Bool.and_eq_true, Bool.or_eq_true, Bool.and_eq_false_iff, Bool.or_eq_false_iff, Bool.not_eq_true, Bool.not_eq_false, Bool.not_eq_true', Bool.not_eq_false', Bool.not_not, bne_iff_ne, beq_iff_eq] at h1)
  have hi : i < fs.length := by omega
  obtain ⟨f, hf⟩ : ∃ k, fs[i]? = some k := ⟨_, List.getElem?_eq_getElem hi⟩
  have hfm := List.mem_of_getElem? hf
  obtain ⟨g1, g2, g3, g4, g5, g6⟩ := hg.2 f hfm
  refine r_more 0 7 rfl (tfs_f hfm) ?_
  refine r_more 7 8 rfl tf_ps ?_
  refine r_more 7 10 rfl tf_body ?_
  refine r_more 10 9 rfl tys_sl ?_
  refine r_skip (r_seq (r_block (r_seq (r_region ?_))))
  refine r_p (p_field0 fo29_0 rfl) rfl ?_
  refine r_p (p_load1 t27 rfl rfl (g_row1 (k := 1) rfl rfl)) rfl ?_
  refine r_p (p_move rfl) rfl ?_
  refine r_p (p_idx_sl (j := i) Tryz.underlying27 t63 rfl rfl (hs_sl (k := 1) rfl) (by first | rfl | omega) (by first | omega | (simp; done) | (simp; omega))) rfl ?_
  refine r_p (p_loadA t63 rfl rfl rfl (g_el' (hs_sl (k := 1) rfl) (by intro _; rfl) hf (by rfl))) rfl ?_
  refine r_alloc t63 rfl rfl fun b5 => ?_
  refine r_store_all (k := 5) t63 rfl rfl rfl rfl rfl rfl ?_
  refine r_nil (r_seq (r_region ?_))
  refine r_bslice0 eS Tryz.underlying58 t9 rfl fun v19 => ?_
  refine r_p (p_field0 fo63_1 rfl) rfl ?_
  refine r_p (p_load1 t58 rfl rfl (g_row1 (k := 5) rfl rfl)) rfl ?_
  refine r_append 19 Tryz.underlying58 t9 rfl (by decide) (fun _ => rfl) (fun _ => rfl) rfl rfl rfl (hs_sl (k := 8) rfl) (by simp only [List.length_nil]; omega) (by unfold maxLen; simp only [List.length_nil]; omega) rfl fun v22 => ?_
  refine r_p (p_field0 fo63_1 rfl) rfl ?_
  refine r_store_row (k := 5) t58 rfl rfl rfl rfl rfl rfl rfl rfl ?_
  refine r_nil (r_seq (r_region ?_))
  refine r_bslice0 eTy Tryz.underlying51 t53 rfl fun v24 => ?_
  refine r_p (p_field0 fo63_2 rfl) rfl ?_
  refine r_p (p_load1 t51 rfl rfl (g_row1 (k := 5) rfl rfl)) rfl ?_
  refine r_append 24 Tryz.underlying51 t53 rfl (by decide) (fun _ => rfl) (fun _ => rfl) rfl rfl rfl (hs_sl (k := 9) rfl) (by simp only [List.length_nil]; omega) (by unfold maxLen; simp only [List.length_nil]; omega) rfl fun v27 => ?_
  refine r_p (p_field0 fo63_2 rfl) rfl ?_
  refine r_store_row (k := 5) t51 rfl rfl rfl rfl rfl rfl rfl rfl ?_
  refine r_nil (r_region ?_)
  refine r_p (p_field0 fo29_0 rfl) rfl ?_
  refine r_p (p_load1 t27 rfl rfl (g_row1 (k := 3) rfl rfl)) rfl ?_
  refine r_p (p_loadA t63 rfl rfl rfl (g_all (k := 5) rfl)) rfl ?_
  refine r_bslice1 eTf { f with vp := v22, vb := v27 } Tryz.underlying27 t63 rfl (by decide) (by decide) rfl rfl rfl rfl fun v32 => ?_
  refine r_append 41 Tryz.underlying27 t63 rfl (by decide) (fun _ => rfl) (fun _ => rfl) rfl rfl rfl (hs_own (k := 32) rfl) (by simp only [List.length_singleton]; omega) (by unfold maxLen; simp only [List.length_singleton]; omega) rfl fun v33 => ?_
  refine r_p (p_field0 fo29_0 rfl) rfl ?_
  refine r_store_row (k := 3) t27 rfl rfl rfl rfl rfl rfl rfl rfl ?_
  refine r_nil (r_region (r_p (p_move rfl) rfl ?_))
  refine r_p (p_bin rfl rfl (b_add (by first | exact w_i64 (by omega) (by omega) | rfl))) rfl ?_
  refine r_p (p_assign rfl) rfl (r_nil ?_)
  by_cases hmi : m = i
  ·have hfat : fat fs m = f := by unfold fat; rw [hmi, hf]; rfl
   have hlt : m < i + 1 := by omega
   refine r_conva (k := 40) (A' := shA m (l ++ [{ f with vp := v22, vb := v27 }])) rfl (sh_skip (by omega)) ?_
   refine r_mv 19 42 rfl rfl ?_
   refine r_mv 24 43 rfl rfl ?_
   refine r_here ⟨i + 1, v33, l ++ [{ f with vp := v22, vb := v27 }], v22, v27⟩ ⟨⟨by dsimp only; omega, by dsimp only; rw [List.length_append, List.length_singleton]; omega, by dsimp only; exact cp_snoc hf n2 n3, fun hm => by dsimp only; rw [List.getElem?_append_right (by omega), n2, hmi, Nat.sub_self]; rw [← hmi, hfat]; rfl, fun hm => by dsimp only at hm; omega⟩, by dsimp only; omega⟩ rfl (by dsimp only; rw [if_pos hlt, if_pos hlt, hfat]; rfl) rfl
  ·refine r_collect 40 [40, 19, 24] (C := shA m (l ++ [{ f with vp := v22, vb := v27 }])) rfl (fun w F h => sh_snoc w F h) ?_
   refine r_here ⟨i + 1, v33, l ++ [{ f with vp := v22, vb := v27 }], pm, bm⟩ ⟨⟨by dsimp only; omega, by dsimp only; rw [List.length_append, List.length_singleton]; omega, by dsimp only; exact cp_snoc hf n2 n3, fun hm => by dsimp only at hm ⊢; rw [List.getElem?_append_left (by omega)]; exact n4 (by omega), fun hm => by dsimp only at hm ⊢; exact n5 (by omega)⟩, by dsimp only; omega⟩ rfl (by dsimp only; rw [if_lt_succ hmi, if_lt_succ hmi]; rfl) rfl
 ·(try simp only [decide_eq_true_eq, decide_eq_false_iff_not, Bool.and_eq_true, Bool.or_eq_true, Bool.and_eq_false_iff, Bool.or_eq_false_iff, Bool.not_eq_true, Bool.not_eq_false, Bool.not_eq_true', Bool.not_eq_false', Bool.not_not, bne_iff_ne, beq_iff_eq] at h1)
  have hi : i = fs.length := by omega
  subst hi
  refine r_exit (r_seq (r_region ?_))
  refine r_p (p_loadA t29 rfl rfl rfl (g_all (k := 3) rfl)) rfl ?_
  refine r_store_all (k := 2) t29 rfl rfl rfl rfl rfl rfl ?_
  refine r_nil (r_cret ?_)
  refine r_ret ⟨fs.length, v, l, pm, bm⟩ ⟨rfl, n1, n2, n3, n4, n5⟩ rfl (rs1 (rv_cellA t29 rfl rfl rfl (g_all (k := 2) rfl))) rfl [40, 41, 42, 43] [] rfl rfl rfl
theorem nYs_len : ∀ l : List Ty, l.length ≤ nYs l
 | [] => Nat.zero_le _
 | t :: r => by
  have h := nYs_len r
  have h2 := nY_def t
  rw [List.length_cons, nYs]
  omega
/-- Programs of bounded size. -/
def GFk (k : Nat) (f : Tf) : Prop := nmB f.name ∧ (∀ s ∈ f.ps, nmB s) ∧ GYs f.body ∧ f.ps.length + nYs f.body ≤ k
def GPk (k : Nat) (fs : List Tf) : Prop := fs.length ≤ k ∧ ∀ f ∈ fs, GFk k f
theorem GPk.gp {k : Nat} {fs : List Tf} (hk : k ≤ 1000000) (h : GPk k fs) : GP fs := ⟨Nat.le_trans h.1 hk, fun f hf => by
 obtain ⟨h1, h2, h3, h4⟩ := h.2 f hf
 have := nYs_len f.body
 exact ⟨h1, h2, by omega, by omega, h3, by omega⟩⟩
theorem GBr.gfk {l : List Int} {fs : List (ByteArray × List ByteArray)} {s0 : Gs} (hf : ∀ f ∈ fs, Hok f) : ∀ {i : Nat} {ps : List Pf} {s : Gs}, GBr l fs s0 i ps s → ∀ ts : List Tf, ts.map erF = ps → ts.length = i ∧ ∀ t ∈ ts, GFk 50000 t
 | _, _, _, .zero, ts, ht => by
  cases List.map_eq_nil_iff.1 ht
  exact ⟨rfl, fun t h => by simp at h⟩
 | _, _, _, .step (s := s) (s2 := s2) (f := f) (b := b) h hx hb, ts, ht => by
  obtain ⟨u, v, rfl, hu, hv⟩ := List.map_eq_append_iff.1 ht
  obtain ⟨t, r, rfl, h1, hr⟩ := List.map_eq_cons_iff.1 hv
  cases List.map_eq_nil_iff.1 hr
  obtain ⟨i1, i2⟩ := h.gfk hf u hu
  have hfk := hf f (List.mem_of_getElem? hx)
  have hbi : GInv { s with left := 8, nodes := 150, vars := 0, names := f.2 } := ⟨Int.le_refl _, by show (0 : Int) ≤ 8; decide, by show (f.2.length : Int) ≤ 100 + 0; have := hfk.2.1; omega, by show (8 : Int) ≤ 1000; decide⟩
  have hbn : Nm { s with left := 8, nodes := 150, vars := 0, names := f.2 } := hfk.2.2
  have hbody : erYs t.body = b := congrArg Pf.body h1
  have hname : t.name = f.1 := congrArg Pf.name h1
  have hps : t.ps = f.2 := congrArg Pf.ps h1
  obtain ⟨⟨a1, a2, a3⟩, a4⟩ := hb.gy (fun f h => ⟨(hf f h).1, (hf f h).2.1⟩) hbi hbn t.body hbody
  have hl0 : 0 ≤ s2.left := hb.left0 (by show (0 : Int) ≤ 8; decide)
  refine ⟨by rw [List.length_append, i1]; rfl, fun t' ht' => ?_⟩
  rcases List.mem_append.1 ht' with h' | h'
  ·exact i2 t' h'
  ·rw [List.mem_singleton.1 h']
   have h5 := hfk.2.1
   have a2' : (nYs t.body : Int) ≤ 4000 * (8 - s2.left) + 0 := a2
   exact ⟨hname ▸ hfk.1, hps ▸ hfk.2.2, a1, by rw [hps]; omega⟩
theorem gMr_gpk {l : List Int} {ts : List Tf} (h : GMr l (ts.map erF)) : GPk 50000 ts := by
 obtain ⟨s, h⟩ := h
 obtain ⟨h1, h2⟩ := h.gfk (hds_ok _ _ _) ts rfl
 have := gMany_bd l
 exact ⟨by omega, h2⟩
theorem tfs_mono {w : World} {F F' : Nat → Prop} {v : SV} {l : List Tf} (h : (tfsA v l).pred w F) (hs : ∀ b, F b → F' b) : (tfsA v l).pred w F' := ⟨h.1.mono hs, fun f hf => ⟨(h.2 f hf).1.mono hs, (h.2 f hf).2.1.mono hs, TysIn.mono hs (fun _ _ => rfl) _ (h.2 f hf).2.2⟩⟩
theorem sh_mono {w : World} {F F' : Nat → Prop} {m : Nat} {l : List Tf} (h : (shA m l).pred w F) (hs : ∀ b, F b → F' b) : (shA m l).pred w F' := fun j f hj hm => ⟨(h j f hj hm).1.mono hs, (h j f hj hm).2.mono hs⟩
/-- Two programs that share parts can be read. -/
def tf2A (vp : SV) (fs : List Tf) (v : SV) (l : List Tf) : Asn := ⟨fun w F => (tfsA vp fs).pred w F ∧ (tfsA v l).pred w F, fun h hs => ⟨(tfsA _ _).stable h.1 hs, (tfsA _ _).stable h.2 hs⟩⟩
theorem set_at {l : List Tf} {m : Nat} {f' g : Tf} {j : Nat} (h : (l.set m f')[j]? = some g) : g = f' ∨ (l[j]? = some g ∧ j ≠ m) := by
 rw [List.getElem?_set] at h
 split at h
 ·split at h
  ·exact .inl (Option.some.inj h).symm
  ·cases h
 ·rename_i hne
  exact .inr ⟨h, fun e => hne e.symm⟩
theorem cp_back {fs l : List Tf} (hcp : CpIs fs l) (hlen : l.length = fs.length) {j : Nat} {g : Tf} (h : l[j]? = some g) : ∃ f p b, fs[j]? = some f ∧ g = { f with vp := p, vb := b } := by
 obtain ⟨hj, -⟩ := List.getElem?_eq_some_iff.1 h
 obtain ⟨f, hf⟩ : ∃ f, fs[j]? = some f := ⟨_, List.getElem?_eq_getElem (by omega)⟩
 obtain ⟨p, b, hp⟩ := hcp j f hf
 exact ⟨f, p, b, hf, by rw [h] at hp; exact Option.some.inj hp⟩
theorem tf2_mk {w : World} {F : Nat → Prop} {vp v : SV} {fs l : List Tf} {m : Nat} {f' : Tf} (h1 : (tfsA vp fs).pred w F) (h2 : (shA m l).pred w F) (hcp : CpIs fs l) (hlen : l.length = fs.length) (h3 : SlIn' w F 3 eTf (sv v) (l.set m f')) (h4 : TfIn w F f') : (tf2A vp fs v (l.set m f')).pred w F := by
 refine ⟨h1, h3, fun g hg => ?_⟩
 obtain ⟨j, hj⟩ := List.getElem?_of_mem hg
 rcases set_at hj with rfl | ⟨hj, hm⟩
 ·exact h4
 ·obtain ⟨f, p, b, hf, rfl⟩ := cp_back hcp hlen hj
  obtain ⟨s1, s2⟩ := h2 j _ hj hm
  exact ⟨s1, s2, (h1.2 f (List.mem_of_getElem? hf)).2.2⟩
theorem gpk_set {k : Nat} {fs l : List Tf} {m : Nat} {f' : Tf} (h : GPk k fs) (hcp : CpIs fs l) (hlen : l.length = fs.length) (h4 : GFk (k + 100) f') : GPk (k + 100) (l.set m f') := by
 refine ⟨by rw [List.length_set, hlen]; have := h.1; omega, fun g hg => ?_⟩
 obtain ⟨j, hj⟩ := List.getElem?_of_mem hg
 rcases set_at hj with rfl | ⟨hj, hm⟩
 ·exact h4
 ·obtain ⟨f, p, b, hf, rfl⟩ := cp_back hcp hlen hj
  obtain ⟨g1, g2, g3, g4⟩ := h.2 f (List.mem_of_getElem? hf)
  exact ⟨g1, g2, g3, Nat.le_trans g4 (by omega)⟩
theorem set_last {α : Type} (a : List α) (x y : α) : (a ++ [x]).set a.length y = a ++ [y] := by
 rw [List.set_append_right _ _ (Nat.le_refl _), Nat.sub_self]
 rfl
theorem gys_app : ∀ {a b : List Ty}, GYs a → GYs b → GYs (a ++ b)
 | [], _, _, h => h
 | _ :: _, _, h, h2 => ⟨h.1, gys_app h.2 h2⟩
theorem TysIn_app {w : World} {F : Nat → Prop} : ∀ {a b : List Ty}, TysIn w F a → TysIn w F b → TysIn w F (a ++ b)
 | [], _, _, h => h
 | _ :: _, _, h, h2 => ⟨h.1, TysIn_app h.2 h2⟩
theorem gfk_app {k : Nat} {f : Tf} {p b : SV} {st : Ty} (h : GFk k f) (h1 : GY st) (h2 : nY st ≤ 100) : GFk (k + 100) { f with vp := p, vb := b, body := f.body ++ [st] } := by
 obtain ⟨g1, g2, g3, g4⟩ := h
 refine ⟨g1, g2, gys_app g3 ⟨h1, trivial⟩, ?_⟩
 show f.ps.length + nYs (f.body ++ [st]) ≤ _
 rw [nYs_app]
 show f.ps.length + (nYs f.body + (nY st + 0)) ≤ _
 omega
theorem gfk_pre {k : Nat} {f : Tf} {p b : SV} {st : Ty} (h : GFk k f) (h1 : GY st) (h2 : nY st ≤ 100) : GFk (k + 100) { f with vp := p, vb := b, body := [st] ++ f.body } := by
 obtain ⟨g1, g2, g3, g4⟩ := h
 refine ⟨g1, g2, ⟨h1, g3⟩, ?_⟩
 show f.ps.length + (nY st + nYs f.body) ≤ _
 omega
/-- An expression that can be read. -/
def txA1 (t : Tx) : Asn := ⟨fun w F => TxIn w F t, fun h hs => TxIn.mono (fun _ hb => hb) hs _ h⟩
def tyA1 (t : Ty) : Asn := ⟨fun w F => TyIn w F t, fun h hs => TyIn.mono (fun _ hb => hb) hs _ h⟩
theorem ny0 {w : World} {F : Nat → Prop} : SlIn' w F 5 eTy (sv nilS) [] ∧ TysIn w F [] := ⟨nil_in, trivial⟩
theorem tx0 {w : World} {F : Nat → Prop} {k n : Int} {s : ByteArray} : TxIn w F (.mk k n s nilS []) := ⟨nil_in, trivial⟩
abbrev yZ : Ty := .mk 0 oNil nilS [] nilS [] nilS []
abbrev yE (k : Int) (s : ByteArray) (v : SV) (t : Tx) : Ty := .mk k s v [t] nilS [] nilS []
theorem ye_in {w : World} {F : Nat → Prop} {k : Int} {s : ByteArray} {v : SV} {t : Tx} (h : SlIn' w F 4 eTx (sv v) [t]) (ht : TxIn w F t) : TyIn w F (yE k s v t) := ⟨⟨h, ht, trivial⟩, ny0, ny0⟩
theorem ye_gy {k : Int} {s : ByteArray} {v : SV} {t : Tx} (hs : nmB s) (ht : GX t) : GY (yE k s v t) := gy_one hs ht
theorem ye_n {k : Int} {s : ByteArray} {v : SV} {t : Tx} : nY (yE k s v t) = 1 + (nX t + 0) + 0 + 0 := rfl
/-- A function with another statement behind its body. -/
theorem app_all {vp v pm vb : SV} {fs l : List Tf} {m : Nat} {fm : Tf} {st : Ty} {E : List Asn} {w : World} {F : Nat → Prop} (hfm : fm ∈ fs) (hcp : CpIs fs l) (hlen : l.length = fs.length) (hst : AllIn w F E → TyIn w F st)
  (h : AllIn w F ([tfsA vp fs, shA m l, own 63 3 eTf (sv v) (l.set m { fm with vp := pm, vb := vb, body := fm.body ++ [st] }), own 9 1 eS (sv pm) fm.ps, own 53 5 eTy (sv vb) ((fm.body ++ [yZ]).set fm.body.length st)] ++ E)) : (tf2A vp fs v (l.set m { fm with vp := pm, vb := vb, body := fm.body ++ [st] })).pred w F := by
 obtain ⟨⟨_, a0, b0⟩, ⟨_, a1, b1⟩, ⟨_, a2, b2⟩, ⟨_, a3, b3⟩, ⟨_, a4, b4⟩, hE⟩ := h
 rw [set_last] at a4
 have hf := (tfs_mono a0 b0).2 fm hfm
 exact tf2_mk (tfs_mono a0 b0) (sh_mono a1 b1) hcp hlen (own_in a2 b2) ⟨own_in a3 b3, own_in a4 b4, TysIn_app hf.2.2 ⟨hst hE, trivial⟩⟩
theorem pre_all {vp v pm vb : SV} {fs l : List Tf} {m : Nat} {fm : Tf} {st : Ty} {E : List Asn} {w : World} {F : Nat → Prop} (hfm : fm ∈ fs) (hcp : CpIs fs l) (hlen : l.length = fs.length) (hst : AllIn w F E → TyIn w F st)
  (h : AllIn w F ([tfsA vp fs, shA m l, own 63 3 eTf (sv v) (l.set m { fm with vp := pm, vb := vb, body := [st] ++ fm.body }), own 9 1 eS (sv pm) fm.ps, own 53 5 eTy (sv vb) ([st] ++ fm.body)] ++ E)) : (tf2A vp fs v (l.set m { fm with vp := pm, vb := vb, body := [st] ++ fm.body })).pred w F := by
 obtain ⟨⟨_, a0, b0⟩, ⟨_, a1, b1⟩, ⟨_, a2, b2⟩, ⟨_, a3, b3⟩, ⟨_, a4, b4⟩, hE⟩ := h
 have hf := (tfs_mono a0 b0).2 fm hfm
 exact tf2_mk (tfs_mono a0 b0) (sh_mono a1 b1) hcp hlen (own_in a2 b2) ⟨own_in a3 b3, own_in a4 b4, hst hE, hf.2.2⟩
theorem one_in {T : Nat} {t : Tx} {v : SV} {k : Int} {s : ByteArray} {w : World} {F : Nat → Prop} (ht : TxIn w F t) (h : AllIn w F [own T 4 eTx (sv v) [t]]) : TyIn w F (yE k s v t) := by
 obtain ⟨⟨_, a0, b0⟩, _⟩ := h
 exact ye_in (own_in a0 b0) ht
theorem nine {z : Int} (h : 0 ≤ z ∧ z < 9) (z0 : ¬ z = 0) (z1 : ¬ z = 1) (z2 : ¬ z = 2) (z3 : ¬ z = 3) (z4 : ¬ z = 4) (z5 : ¬ z = 5) (z6 : ¬ z = 6) (z7 : ¬ z = 7) (z8 : ¬ z = 8) : False := by omega
theorem tdiv9 {n : Int} (h : okI n) : IntKind.i64.wrap (n.tdiv 9) = n.tdiv 9 := by
 have h1 : n.tdiv 9 = if 0 ≤ n then n / 9 else -((-n) / 9) := by
  split
  ·exact Int.tdiv_eq_ediv_of_nonneg (by assumption)
  ·have : n = -(-n) := by omega
   rw [this, Int.neg_tdiv, Int.tdiv_eq_ediv_of_nonneg (by omega), Int.neg_neg]
 obtain ⟨h2, h3⟩ := h
 exact w_i64 (by rw [h1]; split <;> omega) (by rw [h1]; split <;> omega)
theorem getD6 {l : List ByteArray} {i : Nat} (h : i < l.length) : l[i]? = some (l.getD i oNil) := by
 rw [List.getD_eq_getElem?_getD, List.getElem?_eq_getElem h]
 rfl
theorem nmB6 (i : Nat) : nmB (([oNil, ⟨#[45]⟩, ⟨#[97]⟩, ⟨#[105, 102]⟩, ⟨#[43]⟩, ⟨#[110, 111, 112, 101]⟩] : List ByteArray).getD i oNil) := by
 rcases i with _ | _ | _ | _ | _ | _ | i <;> exact nmB_of rfl
set_option maxHeartbeats 16000000 in
set_option maxRecDepth 100000 in
theorem turned_spec (vp : SV) (fs : List Tf) (k : Nat) (hk : k ≤ 900000) (hg0 : GPk k fs) (q0 q1 q2 : Int) (o0 : okI q0) (o1 : okI q1) (o2 : okI q2) :
  Spec Tryz.prog 12 [.agg #[sv vp], .agg #[.int .i64 q0, .int .i64 q1, .int .i64 q2]] [tfsA vp fs] [] (X := SV × List Tf) (fun x => GPk (k + 100) x.2) (fun x => .agg #[sv x.1]) (fun x => [tf2A vp fs x.1 x.2]) (fun _ => []) := by
 refine r_enter Tryz.func12 rfl Tryz.ntmps12 rfl fun w0 M H => ?_
 have hg := hg0.gp (by omega)
 have hgl := hg0.1
 have hm4 := imod_bd (x := q1) (n := 4) (by decide)
 have hm6 := imod_bd (x := (q1.tdiv 9)) (n := 6) (by decide)
 refine r_seq (r_region ?_)
 refine r_boxA rfl rfl fun b2 => ?_
 refine r_boxA rfl rfl fun b3 => ?_
 refine r_alloc t29 rfl rfl fun b4 => ?_
 refine r_nil (r_seq (r_region ?_))
 refine r_p (p_idx_arr1 (j := 0) Tryz.underlying35 t3 rfl rfl (by rfl) (by decide)) rfl ?_
 refine r_p (p_load1 t3 rfl rfl (g_row1 (k := 3) rfl rfl)) rfl ?_
 refine r_p (p_assign rfl) rfl (r_nil (r_seq (r_region ?_)))
 refine r_p (p_idx_arr1 (j := 1) Tryz.underlying35 t3 rfl rfl (by rfl) (by decide)) rfl ?_
 refine r_p (p_load1 t3 rfl rfl (g_row1 (k := 3) rfl rfl)) rfl ?_
 refine r_p (p_assign rfl) rfl (r_nil (r_seq (r_region ?_)))
 refine r_p (p_loadA t29 rfl rfl rfl (g_all (k := 2) rfl)) rfl ?_
 refine r_callN (xs := [.tmp 17]) (copy_spec vp fs (imod q2 (fs.length : Int)).toNat hg) cb33 [] [(true, 0)] [40, 41, 42, 43] rfl rfl rfl rfl rfl rfl rfl rfl (fun _ _ => rfl) (fun _ _ _ => rfl) rfl (fun ⟨ci, v7, l, pm, bm⟩ ⟨hci, hcI⟩ => ?_)
 obtain ⟨c1, c2, c3, c4, c5⟩ := hcI
 dsimp only at hci c1 c2 c3 c4 c5 ⊢
 subst hci
 refine r_alloc t29 rfl rfl fun b7 => ?_
 refine r_store_all (k := 7) t29 rfl rfl rfl rfl rfl rfl ?_
 refine r_nil (r_seq (r_seq (r_region ?_)))
 refine r_p (p_field0 fo29_0 rfl) rfl ?_
 refine r_p (p_load1 t27 rfl rfl (g_row1 (k := 7) rfl rfl)) rfl ?_
 refine r_p (p_len_sl Tryz.underlying27 rfl (hs_own (k := 41) rfl)) rfl ?_
 refine r_p (p_bin rfl rfl b_eq) rfl ?_
 refine r_nil ?_
 refine r_cond rfl (fun h1 => ?_) (fun h1 => ?_)
 ·(try simp only [decide_eq_true_eq, decide_eq_false_iff_not, Bool.and_eq_true, Bool.or_eq_true, Bool.and_eq_false_iff, Bool.or_eq_false_iff, Bool.not_eq_true, Bool.not_eq_false, Bool.not_eq_true', Bool.not_eq_false', Bool.not_not, bne_iff_ne, beq_iff_eq] at h1)
  have hfs0 : fs = [] := by
   rw [← List.length_eq_zero_iff]
   omega
  refine r_seq (r_region ?_)
  refine r_p (p_loadA t29 rfl rfl rfl (g_all (k := 7) rfl)) rfl ?_
  refine r_store_all (k := 4) t29 rfl rfl rfl rfl rfl rfl ?_
  refine r_nil (r_cret ?_)
  have hl0 : l = [] := by rw [← List.length_eq_zero_iff, c2, hfs0]; rfl
  refine r_collect 50 [0, 40, 41] (L := [tfsA vp fs, shA (imod q2 (fs.length : Int)).toNat l, own 63 3 eTf (sv v7) l]) (C := tf2A vp fs v7 l) rfl (fun w F h => by
   obtain ⟨⟨_, a0, b0⟩, _, ⟨_, a2, b2⟩, _⟩ := h
   exact ⟨tfs_mono a0 b0, own_in a2 b2, fun f hf => by rw [hl0] at hf; simp at hf⟩) ?_
  refine r_ret (v7, l) ⟨by dsimp only; rw [c2]; omega, fun f hf => by dsimp only at hf; rw [hl0] at hf; simp at hf⟩ rfl (rs1 (rv_cellA t29 rfl rfl rfl (g_all (k := 4) rfl))) rfl [50] [] rfl rfl rfl
 ·(try simp only [decide_eq_true_eq, decide_eq_false_iff_not, Bool.and_eq_true, Bool.or_eq_true, Bool.and_eq_false_iff, Bool.or_eq_false_iff, Bool.not_eq_true, Bool.not_eq_false, Bool.not_eq_true', Bool.not_eq_false', Bool.not_not, bne_iff_ne, beq_iff_eq] at h1)
  have hfp : 0 < fs.length := by omega
  have hml : (imod q2 (fs.length : Int)).toNat < fs.length := by have := imod_bd (x := q2) (n := (fs.length : Int)) (by omega); omega
  obtain ⟨m, hm⟩ : ∃ m, (imod q2 (fs.length : Int)).toNat = m := ⟨_, rfl⟩
  rw [hm] at c4 hml
  obtain ⟨fm, hfm0⟩ : ∃ f, fs[m]? = some f := ⟨_, List.getElem?_eq_getElem hml⟩
  have hfat : fat fs m = fm := by unfold fat; rw [hfm0]; rfl
  have hfm := List.mem_of_getElem? hfm0
  have hlm := c4 hml
  rw [hfat] at hlm
  have hgf := hg0.2 fm hfm
  obtain ⟨g1, g2, g3, g4, g5, g6⟩ := hg.2 fm hfm
  rw [hm, if_pos hml, if_pos hml, hfat]
  have hzm : imod q2 (fs.length : Int) = (m : Int) := by have := imod_bd (x := q2) (n := (fs.length : Int)) (by omega); omega
  have hcp : CpIs fs l := by rw [List.take_length] at c3; exact c3
  have hlen := c2
  refine r_skip (r_seq ?_)
  refine r_draw [24, 25, 26, 27, 28, 29, 30, 31, 32, 8] _ rfl (stg_mem (V := [(0, 24, _), (1, 25, _), (2, 26, _), (3, 27, _), (4, 28, _), (5, 29, _), (6, 30, _)]) [0, 1, 2, 3, 4, 5, 6] 7 [7, 6, 5, 4, 3, 2] [8, 9] (fun _ => [(8, 32, _), (9, 8, _)]) rfl rfl (prs_cons (pri rfl (p_field0 fo29_0 rfl)) (prs_cons (pri rfl (p_load1 t27 rfl rfl (g_row1 (k := 7) rfl rfl))) (prs_cons (pri rfl (p_idx_arr1 (j := 2) Tryz.underlying35 t3 rfl rfl (by rfl) (by decide))) (prs_cons (pri rfl (p_load1 t3 rfl rfl (g_row1 (k := 3) rfl rfl))) (prs_cons (pri rfl (p_field0 fo29_0 rfl)) (prs_cons (pri rfl (p_load1 t27 rfl rfl (g_row1 (k := 7) rfl rfl))) (prs_cons (pri rfl (p_len_sl Tryz.underlying27 rfl (hs_own (k := 41) rfl))) prs_nil))))))) rfl rfl rfl rfl rfl rfl rfl rfl rfl rfl rfl (fun _ _ => rfl) rfl (ms_callN (xs := [.tmp 27, .tmp 30]) (mod_spec q2 (l.length : Int) (by omega)) cb34 [] [] [] rfl rfl rfl rfl rfl rfl rfl rfl (fun _ _ => rfl) (fun _ _ _ => rfl)) (fun _ _ => stg_end [8, 9, 0, 1] rfl rfl (prs_cons (pri rfl (p_idx_sl (j := m) Tryz.underlying27 t63 rfl rfl (hs_own (k := 41) rfl) (by rw [hlen]; exact hzm) (by omega))) (prs_cons (pri rfl (p_assign rfl)) (prs_cons (pri rfl (p_field0 fo29_0 rfl)) (prs_cons (pri rfl (p_load1 t27 rfl rfl (g_row1 (k := 7) rfl rfl))) prs_nil)))) rfl rfl rfl ?_))
  refine r_seq_cut (X := List Tf) (fun y => GPk (k + 100) y) (fun y => [(2, .pointer (some ⟨b2, 0, none⟩)), (4, .pointer (some ⟨b4, 0, none⟩)), (7, .pointer (some ⟨b7, 0, none⟩))]) (fun y => [(2, row b2 29 [sv vp]), (4, row b4 29 [.slice none 0 0]), (7, row b7 29 [sv v7]), (50, tf2A vp fs v7 y)]) (fun y => []) ?_ (fun y hy => ?_)
  ·refine r_seq (r_region (r_p (p_move rfl) rfl ?_))
   refine r_callN (xs := [.tmp 33, .const (.int .i64 9)]) (mod_spec q0 9 (by omega)) cb34 [] [] [] rfl rfl rfl rfl rfl rfl rfl rfl (fun _ _ => rfl) (fun _ _ _ => rfl) rfl (fun _ _ => ?_)
   refine r_nil (r_block (r_seq (r_region ?_)))
   refine r_p (p_bin rfl rfl b_eq) rfl ?_
   refine r_p (p_assign rfl) rfl (r_nil ?_)
   refine r_cond rfl (fun h2 => ?_) (fun h2 => ?_)
   ·have z0 : imod q0 9 = 0 := of_decide_eq_true h2
    refine r_region (r_p (p_move rfl) rfl (r_p (p_nilCheck rfl) rfl ?_))
    refine r_p (p_field fo63_0 rfl) rfl ?_
    refine r_store_own (k := 41) (o := 0) (e' := { fm with name := ⟨#[103]⟩, vp := pm, vb := bm }) t9 rfl rfl rfl rfl rfl rfl (by intro _; rfl) hlm (by show _ + 1 ≤ _; decide) rfl ?_
    refine r_nil ?_
    refine r_collect 50 [0, 40, 41, 42, 43] (L := [tfsA vp fs, shA m l, own 63 3 eTf (sv v7) (l.set m { fm with name := ⟨#[103]⟩, vp := pm, vb := bm }), own 9 1 eS (sv pm) fm.ps, own 53 5 eTy (sv bm) fm.body]) (C := tf2A vp fs v7 (l.set m { fm with name := ⟨#[103]⟩, vp := pm, vb := bm })) rfl (fun w F h => by
     obtain ⟨⟨_, a0, b0⟩, ⟨_, a1, b1⟩, ⟨_, a2, b2⟩, ⟨_, a3, b3⟩, ⟨_, a4, b4⟩, _⟩ := h
     exact tf2_mk (tfs_mono a0 b0) (sh_mono a1 b1) hcp hlen (own_in a2 b2) ⟨own_in a3 b3, own_in a4 b4, ((tfs_mono a0 b0).2 fm hfm).2.2⟩) ?_
    refine r_here (l.set m { fm with name := ⟨#[103]⟩, vp := pm, vb := bm }) (gpk_set hg0 hcp hlen ⟨nmB_of rfl, hgf.2.1, hgf.2.2.1, Nat.le_trans hgf.2.2.2 (by omega)⟩) rfl rfl rfl
   ·have z0 : ¬ imod q0 9 = 0 := of_decide_eq_false h2
    refine r_seq (r_region ?_)
    refine r_p (p_bin rfl rfl b_eq) rfl ?_
    refine r_p (p_assign rfl) rfl (r_nil ?_)
    refine r_cond rfl (fun h3 => ?_) (fun h3 => ?_)
    ·have z1 : imod q0 9 = 1 := of_decide_eq_true h3
     refine r_region (r_p (p_move rfl) rfl (r_p (p_move rfl) rfl (r_p (p_nilCheck rfl) rfl ?_)))
     refine r_p (p_field fo63_1 rfl) rfl ?_
     refine r_p (p_load1 t58 rfl rfl (g_elp (hs_own (k := 41) rfl) (by intro _; rfl) hlm rfl)) rfl ?_
     refine r_bslice1 eS (⟨#[112]⟩ : ByteArray) Tryz.underlying58 t9 rfl (by decide) (by decide) rfl rfl rfl rfl fun v47 => ?_
     refine r_append 42 Tryz.underlying58 t9 rfl (by decide) (fun _ => rfl) (fun _ => rfl) rfl rfl rfl (hs_own (k := 47) rfl) (by simp only [List.length_singleton]; omega) (by unfold maxLen; simp only [List.length_singleton]; omega) rfl fun v48 => ?_
     refine r_p (p_nilCheck rfl) rfl ?_
     refine r_p (p_field fo63_1 rfl) rfl ?_
     refine r_store_own (k := 41) (o := 1) (e' := { fm with vp := v48, vb := bm, ps := fm.ps ++ [⟨#[112]⟩] }) t58 rfl rfl rfl rfl rfl rfl (by intro _; rfl) hlm (by show _ + 1 ≤ _; decide) rfl ?_
     refine r_nil ?_
     refine r_collect 50 [0, 40, 41, 42, 43] (L := [tfsA vp fs, shA m l, own 63 3 eTf (sv v7) (l.set m { fm with vp := v48, vb := bm, ps := fm.ps ++ [⟨#[112]⟩] }), own 9 1 eS (sv v48) (fm.ps ++ [⟨#[112]⟩]), own 53 5 eTy (sv bm) fm.body]) (C := tf2A vp fs v7 (l.set m { fm with vp := v48, vb := bm, ps := fm.ps ++ [⟨#[112]⟩] })) rfl (fun w F h => by
      obtain ⟨⟨_, a0, b0⟩, ⟨_, a1, b1⟩, ⟨_, a2, b2⟩, ⟨_, a3, b3⟩, ⟨_, a4, b4⟩, _⟩ := h
      exact tf2_mk (tfs_mono a0 b0) (sh_mono a1 b1) hcp hlen (own_in a2 b2) ⟨own_in a3 b3, own_in a4 b4, ((tfs_mono a0 b0).2 fm hfm).2.2⟩) ?_
     refine r_here (l.set m { fm with vp := v48, vb := bm, ps := fm.ps ++ [⟨#[112]⟩] }) (gpk_set hg0 hcp hlen ⟨hgf.1, fun s hs => by
      rcases List.mem_append.1 hs with hs | hs
      ·exact hgf.2.1 s hs
      ·rw [List.mem_singleton.1 hs]; exact nmB_of rfl, hgf.2.2.1, by have := hgf.2.2.2; show (fm.ps ++ [(⟨#[112]⟩ : ByteArray)]).length + nYs fm.body ≤ _; rw [List.length_append, List.length_singleton]; omega⟩) rfl rfl rfl
    ·have z1 : ¬ imod q0 9 = 1 := of_decide_eq_false h3
     refine r_seq (r_region ?_)
     refine r_p (p_bin rfl rfl b_eq) rfl ?_
     refine r_p (p_assign rfl) rfl (r_nil ?_)
     refine r_cond rfl (fun h4 => ?_) (fun h4 => ?_)
     ·have z2 : imod q0 9 = 2 := of_decide_eq_true h4
      refine r_drawM [0, 1, 2, 3, 4, 5, 6, 7, 8, 9, 10, 11, 12, 13, 14, 15, 16] [0, 1, 2, 3, 4, 5, 6, 7, 8, 9, 10, 11, 15, 16, 12, 13, 14] [53, 54, 55, 56, 57, 58, 59, 60, 61, 62, 63, 64, 65, 66, 67] _ rfl rfl rfl (stg_altsJ (V := [(0, 53, _), (1, 54, _), (2, 55, _), (3, 56, _), (4, 57, _), (5, 58, _), (6, 59, _), (9, 62, _)]) [0, 1, 2, 3, 4, 5, 6, 9] rfl rfl (prs_cons (pri rfl (p_move rfl)) (prs_cons (pri rfl (p_nilCheck rfl)) (prs_cons (pri rfl (p_field fo63_2 rfl)) (prs_cons (pri rfl (p_load1 t51 rfl rfl (g_elp (hs_own (k := 41) rfl) (by intro _; rfl) hlm rfl))) (prs_cons (pri rfl (p_move rfl)) (prs_cons (pri rfl (p_conv Tryz.underlying3 Tryz.underlying36 rfl (by first | exact w_u32 (by omega) (by omega) | rfl))) (prs_cons (pri rfl (p_build (parts := [(0, .const (.int .i64 1)), (1, .tmp 58)]) t48 pl48 rfl rfl)) (prs_cons (pri rfl (p_len_sl Tryz.underlying51 rfl (hs_own (k := 43) rfl))) prs_nil)))))))) rfl [7, 10] rfl rfl (nx_cons (nx_memJ 7 [7, 6, 5, 4] [8] (fun v60 => [(8, 61, _)]) rfl rfl rfl rfl rfl rfl rfl rfl rfl (fun _ _ => rfl) rfl (ms_bslice1 eTx (tNum (IntKind.u32.wrap q1)) Tryz.underlying46 t48 rfl (by decide) (by decide) rfl rfl rfl) (fun v60 _ => (prs_cons (pri rfl (p_build (parts := [(0, .const (.int .i64 1)), (1, .const (.string (ByteArray.mk #[97]))), (2, .tmp 60)]) t53 pl53 rfl rfl)) prs_nil)) (fun v60 _ => ?_)) (nx_cons (nx_memJ 10 [10] [] (fun v63 => []) rfl rfl rfl rfl rfl rfl rfl rfl rfl (fun _ _ => rfl) rfl (ms_bslice1 eTy yZ Tryz.underlying51 t53 rfl (by decide) (by decide) rfl rfl rfl) (fun v63 _ => prs_nil) (fun v63 _ => ?_)) nx_nil)))
      all_goals first | refine stg_is [7, 6, 5, 4] (stg_memJ [0, 1, 2, 3, 8, 9] 10 [10, 7, 6, 5, 4] [] (fun v63 => []) rfl rfl (prs_cons (pri rfl (p_move rfl)) (prs_cons (pri rfl (p_nilCheck rfl)) (prs_cons (pri rfl (p_field fo63_2 rfl)) (prs_cons (pri rfl (p_load1 t51 rfl rfl (g_elp (hs_own (k := 41) rfl) (by intro _; rfl) hlm rfl))) (prs_cons (pri rfl (p_build (parts := [(0, .const (.int .i64 1)), (1, .const (.string (ByteArray.mk #[97]))), (2, .tmp 60)]) t53 pl53 rfl rfl)) (prs_cons (pri rfl (p_len_sl Tryz.underlying51 rfl (hs_own (k := 43) rfl))) prs_nil)))))) rfl rfl rfl rfl rfl rfl rfl rfl rfl rfl rfl (fun _ _ => rfl) rfl (ms_bslice1 eTy yZ Tryz.underlying51 t53 rfl (by decide) (by decide) rfl rfl rfl) (fun v63 _ => prs_nil) (fun v63 _ => ?_)) | refine stg_is [10] (stg_memJ [0, 1, 2, 3, 4, 5, 6, 9] 7 [10, 7, 6, 5, 4] [8] (fun v60 => [(8, 61, _)]) rfl rfl (prs_cons (pri rfl (p_move rfl)) (prs_cons (pri rfl (p_nilCheck rfl)) (prs_cons (pri rfl (p_field fo63_2 rfl)) (prs_cons (pri rfl (p_load1 t51 rfl rfl (g_elp (hs_own (k := 41) rfl) (by intro _; rfl) hlm rfl))) (prs_cons (pri rfl (p_move rfl)) (prs_cons (pri rfl (p_conv Tryz.underlying3 Tryz.underlying36 rfl (by first | exact w_u32 (by omega) (by omega) | rfl))) (prs_cons (pri rfl (p_build (parts := [(0, .const (.int .i64 1)), (1, .tmp 58)]) t48 pl48 rfl rfl)) (prs_cons (pri rfl (p_len_sl Tryz.underlying51 rfl (hs_own (k := 43) rfl))) prs_nil)))))))) rfl rfl rfl rfl rfl rfl rfl rfl rfl rfl rfl (fun _ _ => rfl) rfl (ms_bslice1 eTx (tNum (IntKind.u32.wrap q1)) Tryz.underlying46 t48 rfl (by decide) (by decide) rfl rfl rfl) (fun v60 _ => (prs_cons (pri rfl (p_build (parts := [(0, .const (.int .i64 1)), (1, .const (.string (ByteArray.mk #[97]))), (2, .tmp 60)]) t53 pl53 rfl rfl)) prs_nil)) (fun v60 _ => ?_))
      all_goals first | refine stg_is [10, 7, 6, 5, 4] (stg_memJ [0, 1, 2, 3, 8, 9] 11 [11, 10, 9, 8, 7, 6, 5, 4, 3, 2, 1, 0] [12, 14, 15] (fun v64 => [(12, 65, _), (14, 66, _), (15, 67, _)]) rfl rfl (prs_cons (pri rfl (p_move rfl)) (prs_cons (pri rfl (p_nilCheck rfl)) (prs_cons (pri rfl (p_field fo63_2 rfl)) (prs_cons (pri rfl (p_load1 t51 rfl rfl (g_elp (hs_own (k := 41) rfl) (by intro _; rfl) hlm rfl))) (prs_cons (pri rfl (p_build (parts := [(0, .const (.int .i64 1)), (1, .const (.string (ByteArray.mk #[97]))), (2, .tmp 60)]) t53 pl53 rfl rfl)) (prs_cons (pri rfl (p_len_sl Tryz.underlying51 rfl (hs_own (k := 43) rfl))) prs_nil)))))) rfl rfl rfl rfl rfl rfl rfl rfl rfl rfl rfl (fun _ _ => rfl) rfl (ms_append 43 Tryz.underlying51 t53 rfl (by decide) (fun _ => rfl) (fun _ => rfl) rfl rfl rfl (hs_own (k := 63) rfl) (by simp only [List.length_singleton]; omega) (by unfold maxLen; simp only [List.length_singleton]; omega)) (fun v64 _ => (prs_cons (pri rfl (p_idx_sl (j := fm.body.length) Tryz.underlying51 t53 rfl rfl (hs_own (k := 43) rfl) rfl (by rw [List.length_append, List.length_singleton]; omega))) (prs_cons (pri rfl (p_nilCheck rfl)) (prs_cons (pri rfl (p_field fo63_2 rfl)) prs_nil)))) (fun v64 _ => ?_))
      all_goals first | refine stg_is [11, 10, 9, 8, 7, 6, 5, 4, 3, 2, 1, 0] (stg_altsJ [12, 14, 15] rfl rfl (prs_cons (pri rfl (p_idx_sl (j := fm.body.length) Tryz.underlying51 t53 rfl rfl (hs_own (k := 43) rfl) rfl (by rw [List.length_append, List.length_singleton]; omega))) (prs_cons (pri rfl (p_nilCheck rfl)) (prs_cons (pri rfl (p_field fo63_2 rfl)) prs_nil))) rfl [13, 16] rfl rfl (nx_cons (nx_mem0J 13 [13, 12, 11, 10, 9, 8, 7, 6, 5, 4, 3, 2, 1, 0] [] (fun _ => []) rfl rfl rfl rfl rfl rfl rfl (fun _ _ => rfl) rfl (ms_store_el (k := 43) (e' := (yE 1 ⟨#[97]⟩ v60 (tNum (IntKind.u32.wrap q1)))) t53 rfl rfl rfl (by intro _; rfl) (show (fm.body ++ [yZ])[fm.body.length]? = some yZ by rw [List.getElem?_append_right (Nat.le_refl _), Nat.sub_self]; rfl) rfl rfl) (fun _ _ => prs_nil) (fun _ _ => ?_)) (nx_cons (nx_mem0J 16 [16, 15, 14, 11, 10, 9, 8, 7, 6, 5, 4, 3, 2, 1, 0] [] (fun _ => []) rfl rfl rfl rfl rfl rfl rfl (fun _ _ => rfl) rfl (ms_store_own (k := 41) (o := 2) (e' := { fm with vp := pm, vb := v64, body := fm.body ++ [(yE 1 ⟨#[97]⟩ v60 (tNum (IntKind.u32.wrap q1)))] }) t51 rfl rfl rfl rfl rfl rfl (by intro _; rfl) hlm (by show _ + 1 ≤ _; decide) rfl) (fun _ _ => prs_nil) (fun _ _ => ?_)) nx_nil)))
      all_goals first | refine stg_is [13, 12, 11, 10, 9, 8, 7, 6, 5, 4, 3, 2, 1, 0] (stg_mem0J [14, 15] 16 [16, 15, 14, 13, 12, 11, 10, 9, 8, 7, 6, 5, 4, 3, 2, 1, 0] [] (fun _ => []) rfl rfl (prs_cons (pri rfl (p_nilCheck rfl)) (prs_cons (pri rfl (p_field fo63_2 rfl)) prs_nil)) rfl rfl rfl rfl rfl rfl rfl rfl rfl (fun _ _ => rfl) rfl (ms_store_own (k := 41) (o := 2) (e' := { fm with vp := pm, vb := v64, body := fm.body ++ [(yE 1 ⟨#[97]⟩ v60 (tNum (IntKind.u32.wrap q1)))] }) t51 rfl rfl rfl rfl rfl rfl (by intro _; rfl) hlm (by show _ + 1 ≤ _; decide) rfl) (fun _ _ => prs_nil) (fun _ _ => ?_)) | refine stg_is [16, 15, 14, 11, 10, 9, 8, 7, 6, 5, 4, 3, 2, 1, 0] (stg_mem0J [12] 13 [16, 15, 14, 13, 12, 11, 10, 9, 8, 7, 6, 5, 4, 3, 2, 1, 0] [] (fun _ => []) rfl rfl (prs_cons (pri rfl (p_idx_sl (j := fm.body.length) Tryz.underlying51 t53 rfl rfl (hs_own (k := 43) rfl) rfl (by rw [List.length_append, List.length_singleton]; omega))) prs_nil) rfl rfl rfl rfl rfl rfl rfl rfl rfl (fun _ _ => rfl) rfl (ms_store_el (k := 43) (e' := (yE 1 ⟨#[97]⟩ v60 (tNum (IntKind.u32.wrap q1)))) t53 rfl rfl rfl (by intro _; rfl) (show (fm.body ++ [yZ])[fm.body.length]? = some yZ by rw [List.getElem?_append_right (Nat.le_refl _), Nat.sub_self]; rfl) rfl rfl) (fun _ _ => prs_nil) (fun _ _ => ?_))
      all_goals first | refine stg_is [16, 15, 14, 13, 12, 11, 10, 9, 8, 7, 6, 5, 4, 3, 2, 1, 0] (stg_endJ [] rfl rfl prs_nil rfl rfl rfl ?_)
      all_goals
       refine r_collect 50 [0, 40, 41, 42, 43, 60] (C := tf2A vp fs v7 (l.set m { fm with vp := pm, vb := v64, body := fm.body ++ [(yE 1 ⟨#[97]⟩ v60 (tNum (IntKind.u32.wrap q1)))] })) rfl (fun w F h => app_all hfm hcp hlen (one_in tx0) h) ?_
       refine r_here (l.set m { fm with vp := pm, vb := v64, body := fm.body ++ [(yE 1 ⟨#[97]⟩ v60 (tNum (IntKind.u32.wrap q1)))] }) (gpk_set hg0 hcp hlen (gfk_app hgf (ye_gy (nmB_of rfl) (gx_num (oW_wU q1))) (Nat.le_of_ble_eq_true rfl))) rfl rfl rfl
     ·have z2 : ¬ imod q0 9 = 2 := of_decide_eq_false h4
      refine r_seq (r_region ?_)
      refine r_p (p_bin rfl rfl b_eq) rfl ?_
      refine r_p (p_assign rfl) rfl (r_nil ?_)
      refine r_cond rfl (fun h5 => ?_) (fun h5 => ?_)
      ·have z3 : imod q0 9 = 3 := of_decide_eq_true h5
       refine r_drawM [0, 1, 2, 3, 4, 5, 6, 7, 8, 9, 10, 11, 12, 13, 14, 15, 16] [0, 1, 2, 3, 4, 5, 6, 7, 8, 9, 10, 11, 15, 16, 12, 13, 14] [70, 71, 72, 73, 74, 75, 76, 77, 78, 79, 80, 81, 82, 83, 84] _ rfl rfl rfl (stg_altsJ (V := [(0, 70, _), (1, 71, _), (2, 72, _), (3, 73, _), (4, 74, _), (6, 76, _), (9, 79, _)]) [0, 1, 2, 3, 4, 6, 9] rfl rfl (prs_cons (pri rfl (p_move rfl)) (prs_cons (pri rfl (p_nilCheck rfl)) (prs_cons (pri rfl (p_field fo63_2 rfl)) (prs_cons (pri rfl (p_load1 t51 rfl rfl (g_elp (hs_own (k := 41) rfl) (by intro _; rfl) hlm rfl))) (prs_cons (pri rfl (p_move rfl)) (prs_cons (pri rfl (p_build (parts := [(0, .const (.int .i64 5))]) t48 pl48 rfl rfl)) (prs_cons (pri rfl (p_len_sl Tryz.underlying51 rfl (hs_own (k := 43) rfl))) prs_nil))))))) rfl [5, 7, 10] rfl rfl (nx_cons (nx_memJ 5 [5, 4] [] (fun _ => []) rfl rfl rfl rfl rfl rfl rfl rfl rfl (fun _ _ => rfl) rfl (ms_callN (xs := [.tmp 74, .const (.int .i64 10)]) (mod_spec q1 10 (by omega)) cb34 [] [] [] rfl rfl rfl rfl rfl rfl rfl rfl (fun _ _ => rfl) (fun _ _ _ => rfl)) (fun _ _ => prs_nil) (fun _ _ => ?_)) (nx_cons (nx_memJ 7 [7, 6] [] (fun v77 => []) rfl rfl rfl rfl rfl rfl rfl rfl rfl (fun _ _ => rfl) rfl (ms_bslice1 eTx tIn Tryz.underlying46 t48 rfl (by decide) (by decide) rfl rfl rfl) (fun v77 _ => prs_nil) (fun v77 _ => ?_)) (nx_cons (nx_memJ 10 [10] [] (fun v80 => []) rfl rfl rfl rfl rfl rfl rfl rfl rfl (fun _ _ => rfl) rfl (ms_bslice1 eTy yZ Tryz.underlying51 t53 rfl (by decide) (by decide) rfl rfl rfl) (fun v80 _ => prs_nil) (fun v80 _ => ?_)) nx_nil))))
       all_goals first | refine stg_is [5, 4] (stg_altsJ [0, 1, 2, 3, 6, 9] rfl rfl (prs_cons (pri rfl (p_move rfl)) (prs_cons (pri rfl (p_nilCheck rfl)) (prs_cons (pri rfl (p_field fo63_2 rfl)) (prs_cons (pri rfl (p_load1 t51 rfl rfl (g_elp (hs_own (k := 41) rfl) (by intro _; rfl) hlm rfl))) (prs_cons (pri rfl (p_build (parts := [(0, .const (.int .i64 5))]) t48 pl48 rfl rfl)) (prs_cons (pri rfl (p_len_sl Tryz.underlying51 rfl (hs_own (k := 43) rfl))) prs_nil)))))) rfl [7, 10] rfl rfl (nx_cons (nx_memJ 7 [7, 6, 5, 4] [8] (fun v77 => [(8, 78, _)]) rfl rfl rfl rfl rfl rfl rfl rfl rfl (fun _ _ => rfl) rfl (ms_bslice1 eTx tIn Tryz.underlying46 t48 rfl (by decide) (by decide) rfl rfl rfl) (fun v77 _ => (prs_cons (pri rfl (p_build (parts := [(0, .tmp 75), (2, .tmp 77)]) t53 pl53 rfl rfl)) prs_nil)) (fun v77 _ => ?_)) (nx_cons (nx_memJ 10 [10, 5, 4] [] (fun v80 => []) rfl rfl rfl rfl rfl rfl rfl rfl rfl (fun _ _ => rfl) rfl (ms_bslice1 eTy yZ Tryz.underlying51 t53 rfl (by decide) (by decide) rfl rfl rfl) (fun v80 _ => prs_nil) (fun v80 _ => ?_)) nx_nil))) | refine stg_is [7, 6] (stg_altsJ [0, 1, 2, 3, 4, 9] rfl rfl (prs_cons (pri rfl (p_move rfl)) (prs_cons (pri rfl (p_nilCheck rfl)) (prs_cons (pri rfl (p_field fo63_2 rfl)) (prs_cons (pri rfl (p_load1 t51 rfl rfl (g_elp (hs_own (k := 41) rfl) (by intro _; rfl) hlm rfl))) (prs_cons (pri rfl (p_move rfl)) (prs_cons (pri rfl (p_len_sl Tryz.underlying51 rfl (hs_own (k := 43) rfl))) prs_nil)))))) rfl [5, 10] rfl rfl (nx_cons (nx_memJ 5 [7, 6, 5, 4] [8] (fun _ => [(8, 78, _)]) rfl rfl rfl rfl rfl rfl rfl rfl rfl (fun _ _ => rfl) rfl (ms_callN (xs := [.tmp 74, .const (.int .i64 10)]) (mod_spec q1 10 (by omega)) cb34 [] [] [] rfl rfl rfl rfl rfl rfl rfl rfl (fun _ _ => rfl) (fun _ _ _ => rfl)) (fun _ _ => (prs_cons (pri rfl (p_build (parts := [(0, .tmp 75), (2, .tmp 77)]) t53 pl53 rfl rfl)) prs_nil)) (fun _ _ => ?_)) (nx_cons (nx_memJ 10 [10, 7, 6] [] (fun v80 => []) rfl rfl rfl rfl rfl rfl rfl rfl rfl (fun _ _ => rfl) rfl (ms_bslice1 eTy yZ Tryz.underlying51 t53 rfl (by decide) (by decide) rfl rfl rfl) (fun v80 _ => prs_nil) (fun v80 _ => ?_)) nx_nil))) | refine stg_is [10] (stg_altsJ [0, 1, 2, 3, 4, 6, 9] rfl rfl (prs_cons (pri rfl (p_move rfl)) (prs_cons (pri rfl (p_nilCheck rfl)) (prs_cons (pri rfl (p_field fo63_2 rfl)) (prs_cons (pri rfl (p_load1 t51 rfl rfl (g_elp (hs_own (k := 41) rfl) (by intro _; rfl) hlm rfl))) (prs_cons (pri rfl (p_move rfl)) (prs_cons (pri rfl (p_build (parts := [(0, .const (.int .i64 5))]) t48 pl48 rfl rfl)) (prs_cons (pri rfl (p_len_sl Tryz.underlying51 rfl (hs_own (k := 43) rfl))) prs_nil))))))) rfl [5, 7] rfl rfl (nx_cons (nx_memJ 5 [10, 5, 4] [] (fun _ => []) rfl rfl rfl rfl rfl rfl rfl rfl rfl (fun _ _ => rfl) rfl (ms_callN (xs := [.tmp 74, .const (.int .i64 10)]) (mod_spec q1 10 (by omega)) cb34 [] [] [] rfl rfl rfl rfl rfl rfl rfl rfl (fun _ _ => rfl) (fun _ _ _ => rfl)) (fun _ _ => prs_nil) (fun _ _ => ?_)) (nx_cons (nx_memJ 7 [10, 7, 6] [] (fun v77 => []) rfl rfl rfl rfl rfl rfl rfl rfl rfl (fun _ _ => rfl) rfl (ms_bslice1 eTx tIn Tryz.underlying46 t48 rfl (by decide) (by decide) rfl rfl rfl) (fun v77 _ => prs_nil) (fun v77 _ => ?_)) nx_nil)))
       all_goals first | refine stg_is [7, 6, 5, 4] (stg_memJ [0, 1, 2, 3, 8, 9] 10 [10, 7, 6, 5, 4] [] (fun v80 => []) rfl rfl (prs_cons (pri rfl (p_move rfl)) (prs_cons (pri rfl (p_nilCheck rfl)) (prs_cons (pri rfl (p_field fo63_2 rfl)) (prs_cons (pri rfl (p_load1 t51 rfl rfl (g_elp (hs_own (k := 41) rfl) (by intro _; rfl) hlm rfl))) (prs_cons (pri rfl (p_build (parts := [(0, .tmp 75), (2, .tmp 77)]) t53 pl53 rfl rfl)) (prs_cons (pri rfl (p_len_sl Tryz.underlying51 rfl (hs_own (k := 43) rfl))) prs_nil)))))) rfl rfl rfl rfl rfl rfl rfl rfl rfl rfl rfl (fun _ _ => rfl) rfl (ms_bslice1 eTy yZ Tryz.underlying51 t53 rfl (by decide) (by decide) rfl rfl rfl) (fun v80 _ => prs_nil) (fun v80 _ => ?_)) | refine stg_is [10, 5, 4] (stg_memJ [0, 1, 2, 3, 6, 9] 7 [10, 7, 6, 5, 4] [8] (fun v77 => [(8, 78, _)]) rfl rfl (prs_cons (pri rfl (p_move rfl)) (prs_cons (pri rfl (p_nilCheck rfl)) (prs_cons (pri rfl (p_field fo63_2 rfl)) (prs_cons (pri rfl (p_load1 t51 rfl rfl (g_elp (hs_own (k := 41) rfl) (by intro _; rfl) hlm rfl))) (prs_cons (pri rfl (p_build (parts := [(0, .const (.int .i64 5))]) t48 pl48 rfl rfl)) (prs_cons (pri rfl (p_len_sl Tryz.underlying51 rfl (hs_own (k := 43) rfl))) prs_nil)))))) rfl rfl rfl rfl rfl rfl rfl rfl rfl rfl rfl (fun _ _ => rfl) rfl (ms_bslice1 eTx tIn Tryz.underlying46 t48 rfl (by decide) (by decide) rfl rfl rfl) (fun v77 _ => (prs_cons (pri rfl (p_build (parts := [(0, .tmp 75), (2, .tmp 77)]) t53 pl53 rfl rfl)) prs_nil)) (fun v77 _ => ?_)) | refine stg_is [10, 7, 6] (stg_memJ [0, 1, 2, 3, 4, 9] 5 [10, 7, 6, 5, 4] [8] (fun _ => [(8, 78, _)]) rfl rfl (prs_cons (pri rfl (p_move rfl)) (prs_cons (pri rfl (p_nilCheck rfl)) (prs_cons (pri rfl (p_field fo63_2 rfl)) (prs_cons (pri rfl (p_load1 t51 rfl rfl (g_elp (hs_own (k := 41) rfl) (by intro _; rfl) hlm rfl))) (prs_cons (pri rfl (p_move rfl)) (prs_cons (pri rfl (p_len_sl Tryz.underlying51 rfl (hs_own (k := 43) rfl))) prs_nil)))))) rfl rfl rfl rfl rfl rfl rfl rfl rfl rfl rfl (fun _ _ => rfl) rfl (ms_callN (xs := [.tmp 74, .const (.int .i64 10)]) (mod_spec q1 10 (by omega)) cb34 [] [] [] rfl rfl rfl rfl rfl rfl rfl rfl (fun _ _ => rfl) (fun _ _ _ => rfl)) (fun _ _ => (prs_cons (pri rfl (p_build (parts := [(0, .tmp 75), (2, .tmp 77)]) t53 pl53 rfl rfl)) prs_nil)) (fun _ _ => ?_))
       all_goals first | refine stg_is [10, 7, 6, 5, 4] (stg_memJ [0, 1, 2, 3, 8, 9] 11 [11, 10, 9, 8, 7, 6, 5, 4, 3, 2, 1, 0] [12, 14, 15] (fun v81 => [(12, 82, _), (14, 83, _), (15, 84, _)]) rfl rfl (prs_cons (pri rfl (p_move rfl)) (prs_cons (pri rfl (p_nilCheck rfl)) (prs_cons (pri rfl (p_field fo63_2 rfl)) (prs_cons (pri rfl (p_load1 t51 rfl rfl (g_elp (hs_own (k := 41) rfl) (by intro _; rfl) hlm rfl))) (prs_cons (pri rfl (p_build (parts := [(0, .tmp 75), (2, .tmp 77)]) t53 pl53 rfl rfl)) (prs_cons (pri rfl (p_len_sl Tryz.underlying51 rfl (hs_own (k := 43) rfl))) prs_nil)))))) rfl rfl rfl rfl rfl rfl rfl rfl rfl rfl rfl (fun _ _ => rfl) rfl (ms_append 43 Tryz.underlying51 t53 rfl (by decide) (fun _ => rfl) (fun _ => rfl) rfl rfl rfl (hs_own (k := 80) rfl) (by simp only [List.length_singleton]; omega) (by unfold maxLen; simp only [List.length_singleton]; omega)) (fun v81 _ => (prs_cons (pri rfl (p_idx_sl (j := fm.body.length) Tryz.underlying51 t53 rfl rfl (hs_own (k := 43) rfl) rfl (by rw [List.length_append, List.length_singleton]; omega))) (prs_cons (pri rfl (p_nilCheck rfl)) (prs_cons (pri rfl (p_field fo63_2 rfl)) prs_nil)))) (fun v81 _ => ?_))
       all_goals first | refine stg_is [11, 10, 9, 8, 7, 6, 5, 4, 3, 2, 1, 0] (stg_altsJ [12, 14, 15] rfl rfl (prs_cons (pri rfl (p_idx_sl (j := fm.body.length) Tryz.underlying51 t53 rfl rfl (hs_own (k := 43) rfl) rfl (by rw [List.length_append, List.length_singleton]; omega))) (prs_cons (pri rfl (p_nilCheck rfl)) (prs_cons (pri rfl (p_field fo63_2 rfl)) prs_nil))) rfl [13, 16] rfl rfl (nx_cons (nx_mem0J 13 [13, 12, 11, 10, 9, 8, 7, 6, 5, 4, 3, 2, 1, 0] [] (fun _ => []) rfl rfl rfl rfl rfl rfl rfl (fun _ _ => rfl) rfl (ms_store_el (k := 43) (e' := (yE (imod q1 10) oNil v77 tIn)) t53 rfl rfl rfl (by intro _; rfl) (show (fm.body ++ [yZ])[fm.body.length]? = some yZ by rw [List.getElem?_append_right (Nat.le_refl _), Nat.sub_self]; rfl) rfl rfl) (fun _ _ => prs_nil) (fun _ _ => ?_)) (nx_cons (nx_mem0J 16 [16, 15, 14, 11, 10, 9, 8, 7, 6, 5, 4, 3, 2, 1, 0] [] (fun _ => []) rfl rfl rfl rfl rfl rfl rfl (fun _ _ => rfl) rfl (ms_store_own (k := 41) (o := 2) (e' := { fm with vp := pm, vb := v81, body := fm.body ++ [(yE (imod q1 10) oNil v77 tIn)] }) t51 rfl rfl rfl rfl rfl rfl (by intro _; rfl) hlm (by show _ + 1 ≤ _; decide) rfl) (fun _ _ => prs_nil) (fun _ _ => ?_)) nx_nil)))
       all_goals first | refine stg_is [13, 12, 11, 10, 9, 8, 7, 6, 5, 4, 3, 2, 1, 0] (stg_mem0J [14, 15] 16 [16, 15, 14, 13, 12, 11, 10, 9, 8, 7, 6, 5, 4, 3, 2, 1, 0] [] (fun _ => []) rfl rfl (prs_cons (pri rfl (p_nilCheck rfl)) (prs_cons (pri rfl (p_field fo63_2 rfl)) prs_nil)) rfl rfl rfl rfl rfl rfl rfl rfl rfl (fun _ _ => rfl) rfl (ms_store_own (k := 41) (o := 2) (e' := { fm with vp := pm, vb := v81, body := fm.body ++ [(yE (imod q1 10) oNil v77 tIn)] }) t51 rfl rfl rfl rfl rfl rfl (by intro _; rfl) hlm (by show _ + 1 ≤ _; decide) rfl) (fun _ _ => prs_nil) (fun _ _ => ?_)) | refine stg_is [16, 15, 14, 11, 10, 9, 8, 7, 6, 5, 4, 3, 2, 1, 0] (stg_mem0J [12] 13 [16, 15, 14, 13, 12, 11, 10, 9, 8, 7, 6, 5, 4, 3, 2, 1, 0] [] (fun _ => []) rfl rfl (prs_cons (pri rfl (p_idx_sl (j := fm.body.length) Tryz.underlying51 t53 rfl rfl (hs_own (k := 43) rfl) rfl (by rw [List.length_append, List.length_singleton]; omega))) prs_nil) rfl rfl rfl rfl rfl rfl rfl rfl rfl (fun _ _ => rfl) rfl (ms_store_el (k := 43) (e' := (yE (imod q1 10) oNil v77 tIn)) t53 rfl rfl rfl (by intro _; rfl) (show (fm.body ++ [yZ])[fm.body.length]? = some yZ by rw [List.getElem?_append_right (Nat.le_refl _), Nat.sub_self]; rfl) rfl rfl) (fun _ _ => prs_nil) (fun _ _ => ?_))
       all_goals first | refine stg_is [16, 15, 14, 13, 12, 11, 10, 9, 8, 7, 6, 5, 4, 3, 2, 1, 0] (stg_endJ [] rfl rfl prs_nil rfl rfl rfl ?_)
       all_goals
        refine r_collect 50 [0, 40, 41, 42, 43, 77] (C := tf2A vp fs v7 (l.set m { fm with vp := pm, vb := v81, body := fm.body ++ [(yE (imod q1 10) oNil v77 tIn)] })) rfl (fun w F h => app_all hfm hcp hlen (one_in tx0) h) ?_
        refine r_here (l.set m { fm with vp := pm, vb := v81, body := fm.body ++ [(yE (imod q1 10) oNil v77 tIn)] }) (gpk_set hg0 hcp hlen (gfk_app hgf (ye_gy (nmB_of rfl) gx_in) (Nat.le_of_ble_eq_true rfl))) rfl rfl rfl
      ·have z3 : ¬ imod q0 9 = 3 := of_decide_eq_false h5
       refine r_seq (r_region ?_)
       refine r_p (p_bin rfl rfl b_eq) rfl ?_
       refine r_p (p_assign rfl) rfl (r_nil ?_)
       refine r_cond rfl (fun h6 => ?_) (fun h6 => ?_)
       ·have z4 : imod q0 9 = 4 := of_decide_eq_true h6
        refine r_region (r_p (p_move rfl) rfl ?_)
        refine r_p (p_build (parts := [(0, .const (.int .i64 5))]) t48 pl48 rfl rfl) rfl ?_
        refine r_bslice1 eTx tIn Tryz.underlying46 t48 rfl (by decide) (by decide) rfl rfl rfl rfl fun v89 => ?_
        refine r_p (p_build (parts := [(0, .const (.int .i64 3)), (2, .const (.string (ByteArray.mk #[102]))), (3, .tmp 89)]) t48 pl48 rfl rfl) rfl ?_
        refine r_bslice1 eTx (.mk 3 0 ⟨#[102]⟩ v89 [tIn]) Tryz.underlying46 t48 rfl (by decide) (by decide) rfl rfl rfl rfl fun v91 => ?_
        refine r_p (p_build (parts := [(0, .const (.int .i64 7)), (2, .tmp 91)]) t53 pl53 rfl rfl) rfl ?_
        refine r_bslice1 eTy (yE 7 oNil v91 (.mk 3 0 ⟨#[102]⟩ v89 [tIn])) Tryz.underlying51 t53 rfl (by decide) (by decide) rfl rfl rfl rfl fun v93 => ?_
        refine r_p (p_move rfl) rfl (r_p (p_nilCheck rfl) rfl ?_)
        refine r_p (p_field fo63_2 rfl) rfl ?_
        refine r_p (p_load1 t51 rfl rfl (g_elp (hs_own (k := 41) rfl) (by intro _; rfl) hlm rfl)) rfl ?_
        refine r_append 93 Tryz.underlying51 t53 rfl (by decide) (fun _ => rfl) (fun _ => rfl) rfl rfl rfl (hs_own (k := 43) rfl) (by simp only [List.length_singleton]; omega) (by unfold maxLen; simp only [List.length_singleton]; omega) rfl fun v98 => ?_
        refine r_p (p_nilCheck rfl) rfl ?_
        refine r_p (p_field fo63_2 rfl) rfl ?_
        refine r_store_own (k := 41) (o := 2) (e' := { fm with vp := pm, vb := v98, body := [(yE 7 oNil v91 (.mk 3 0 ⟨#[102]⟩ v89 [tIn]))] ++ fm.body }) t51 rfl rfl rfl rfl rfl rfl (by intro _; rfl) hlm (by show _ + 1 ≤ _; decide) rfl ?_
        refine r_nil ?_
        refine r_collect 50 [0, 40, 41, 42, 93, 91, 89] (C := tf2A vp fs v7 (l.set m { fm with vp := pm, vb := v98, body := [(yE 7 oNil v91 (.mk 3 0 ⟨#[102]⟩ v89 [tIn]))] ++ fm.body })) rfl (fun w F h => pre_all (E := [own 48 4 eTx (sv v91) [.mk 3 0 ⟨#[102]⟩ v89 [tIn]], own 48 4 eTx (sv v89) [tIn]]) hfm hcp hlen (fun h => by
         obtain ⟨⟨_, a0, b0⟩, ⟨_, a1, b1⟩, _⟩ := h
         exact ye_in (own_in a0 b0) ⟨own_in a1 b1, tx0, trivial⟩) h) ?_
        refine r_here (l.set m { fm with vp := pm, vb := v98, body := [(yE 7 oNil v91 (.mk 3 0 ⟨#[102]⟩ v89 [tIn]))] ++ fm.body }) (gpk_set hg0 hcp hlen (gfk_pre hgf (ye_gy (nmB_of rfl) ⟨oW0, nmB_of rfl, by show 1 ≤ 1000000; decide, gx_in, trivial⟩) (Nat.le_of_ble_eq_true rfl))) rfl rfl rfl
       ·have z4 : ¬ imod q0 9 = 4 := of_decide_eq_false h6
        refine r_seq (r_region ?_)
        refine r_p (p_bin rfl rfl b_eq) rfl ?_
        refine r_p (p_assign rfl) rfl (r_nil ?_)
        refine r_cond rfl (fun h7 => ?_) (fun h7 => ?_)
        ·have z5 : imod q0 9 = 5 := of_decide_eq_true h7
         refine r_region (r_p (p_move rfl) rfl ?_)
         refine r_p (p_build (parts := [(0, .const (.int .i64 2)), (2, .const (.string (ByteArray.mk #[98])))]) t48 pl48 rfl rfl) rfl ?_
         refine r_bslice1 eTx (tName ⟨#[98]⟩) Tryz.underlying46 t48 rfl (by decide) (by decide) rfl rfl rfl rfl fun v105 => ?_
         refine r_p (p_build (parts := [(0, .const (.int .i64 2)), (1, .const (.string (ByteArray.mk #[97]))), (2, .tmp 105)]) t53 pl53 rfl rfl) rfl ?_
         refine r_bslice1 eTy (yE 2 ⟨#[97]⟩ v105 (tName ⟨#[98]⟩)) Tryz.underlying51 t53 rfl (by decide) (by decide) rfl rfl rfl rfl fun v107 => ?_
         refine r_p (p_move rfl) rfl (r_p (p_nilCheck rfl) rfl ?_)
         refine r_p (p_field fo63_2 rfl) rfl ?_
         refine r_p (p_load1 t51 rfl rfl (g_elp (hs_own (k := 41) rfl) (by intro _; rfl) hlm rfl)) rfl ?_
         refine r_append 107 Tryz.underlying51 t53 rfl (by decide) (fun _ => rfl) (fun _ => rfl) rfl rfl rfl (hs_own (k := 43) rfl) (by simp only [List.length_singleton]; omega) (by unfold maxLen; simp only [List.length_singleton]; omega) rfl fun v112 => ?_
         refine r_p (p_nilCheck rfl) rfl ?_
         refine r_p (p_field fo63_2 rfl) rfl ?_
         refine r_store_own (k := 41) (o := 2) (e' := { fm with vp := pm, vb := v112, body := [(yE 2 ⟨#[97]⟩ v105 (tName ⟨#[98]⟩))] ++ fm.body }) t51 rfl rfl rfl rfl rfl rfl (by intro _; rfl) hlm (by show _ + 1 ≤ _; decide) rfl ?_
         refine r_nil ?_
         refine r_collect 50 [0, 40, 41, 42, 107, 105] (C := tf2A vp fs v7 (l.set m { fm with vp := pm, vb := v112, body := [(yE 2 ⟨#[97]⟩ v105 (tName ⟨#[98]⟩))] ++ fm.body })) rfl (fun w F h => pre_all hfm hcp hlen (one_in tx0) h) ?_
         refine r_here (l.set m { fm with vp := pm, vb := v112, body := [(yE 2 ⟨#[97]⟩ v105 (tName ⟨#[98]⟩))] ++ fm.body }) (gpk_set hg0 hcp hlen (gfk_pre hgf (ye_gy (nmB_of rfl) (gx_name (nmB_of rfl))) (Nat.le_of_ble_eq_true rfl))) rfl rfl rfl
        ·have z5 : ¬ imod q0 9 = 5 := of_decide_eq_false h7
         refine r_seq (r_region ?_)
         refine r_p (p_bin rfl rfl b_eq) rfl ?_
         refine r_p (p_assign rfl) rfl (r_nil ?_)
         refine r_cond rfl (fun h8 => ?_) (fun h8 => ?_)
         ·have z6 : imod q0 9 = 6 := of_decide_eq_true h8
          refine r_drawM [0, 1, 2, 3, 4, 5, 6, 7, 8, 9, 10, 11, 12, 13, 14, 15, 16, 17, 18, 19, 20, 21, 22] [0, 1, 2, 3, 4, 5, 6, 7, 8, 9, 10, 11, 12, 13, 14, 15, 16, 17, 21, 22, 18, 19, 20] [117, 118, 119, 120, 121, 122, 123, 124, 125, 126, 127, 128, 129, 130, 131, 132, 133, 134, 135, 136, 137] _ rfl rfl rfl (stg_altsJ (V := [(0, 117, _), (1, 118, _), (2, 119, _), (3, 120, _), (4, 121, _), (7, 124, _), (8, 125, _), (15, 132, _)]) [0, 1, 2, 3, 4, 7, 8, 15] rfl rfl (prs_cons (pri rfl (p_move rfl)) (prs_cons (pri rfl (p_nilCheck rfl)) (prs_cons (pri rfl (p_field fo63_2 rfl)) (prs_cons (pri rfl (p_load1 t51 rfl rfl (g_elp (hs_own (k := 41) rfl) (by intro _; rfl) hlm rfl))) (prs_cons (pri rfl (p_move rfl)) (prs_cons (pri rfl (p_move rfl)) (prs_cons (pri rfl (p_bin rfl rfl (b_quo (by decide) (tdiv9 o1)))) (prs_cons (pri rfl (p_len_sl Tryz.underlying51 rfl (hs_own (k := 43) rfl))) prs_nil)))))))) rfl [5, 6, 16] rfl rfl (nx_cons (nx_memJ 5 [5, 4] [] (fun _ => []) rfl rfl rfl rfl rfl rfl rfl rfl rfl (fun _ _ => rfl) rfl (ms_callN (xs := [.tmp 121, .const (.int .i64 9)]) (mod_spec q1 9 (by omega)) cb34 [] [] [] rfl rfl rfl rfl rfl rfl rfl rfl (fun _ _ => rfl) (fun _ _ _ => rfl)) (fun _ _ => prs_nil) (fun _ _ => ?_)) (nx_cons (nx_memJ 6 [6] [] (fun v123 => []) rfl rfl rfl rfl rfl rfl rfl rfl rfl (fun _ _ => rfl) rfl (ms_bslice eS [oNil, ⟨#[45]⟩, ⟨#[97]⟩, ⟨#[105, 102]⟩, ⟨#[43]⟩, ⟨#[110, 111, 112, 101]⟩] (parts := [(0, .const (.string (ByteArray.mk #[]))), (1, .const (.string (ByteArray.mk #[45]))), (2, .const (.string (ByteArray.mk #[97]))), (3, .const (.string (ByteArray.mk #[105, 102]))), (4, .const (.string (ByteArray.mk #[43]))), (5, .const (.string (ByteArray.mk #[110, 111, 112, 101])))]) Tryz.underlying58 t9 rfl (by decide) (by intro _; rfl) rfl (by decide) (by decide) rfl rfl rfl) (fun v123 _ => prs_nil) (fun v123 _ => ?_)) (nx_cons (nx_memJ 16 [16] [] (fun v133 => []) rfl rfl rfl rfl rfl rfl rfl rfl rfl (fun _ _ => rfl) rfl (ms_bslice1 eTy yZ Tryz.underlying51 t53 rfl (by decide) (by decide) rfl rfl rfl) (fun v133 _ => prs_nil) (fun v133 _ => ?_)) nx_nil))))
          all_goals first | refine stg_is [5, 4] (stg_altsJ [0, 1, 2, 3, 7, 8, 15] rfl rfl (prs_cons (pri rfl (p_move rfl)) (prs_cons (pri rfl (p_nilCheck rfl)) (prs_cons (pri rfl (p_field fo63_2 rfl)) (prs_cons (pri rfl (p_load1 t51 rfl rfl (g_elp (hs_own (k := 41) rfl) (by intro _; rfl) hlm rfl))) (prs_cons (pri rfl (p_move rfl)) (prs_cons (pri rfl (p_bin rfl rfl (b_quo (by decide) (tdiv9 o1)))) (prs_cons (pri rfl (p_len_sl Tryz.underlying51 rfl (hs_own (k := 43) rfl))) prs_nil))))))) rfl [6, 9, 16] rfl rfl (nx_cons (nx_memJ 6 [6, 5, 4] [] (fun v123 => []) rfl rfl rfl rfl rfl rfl rfl rfl rfl (fun _ _ => rfl) rfl (ms_bslice eS [oNil, ⟨#[45]⟩, ⟨#[97]⟩, ⟨#[105, 102]⟩, ⟨#[43]⟩, ⟨#[110, 111, 112, 101]⟩] (parts := [(0, .const (.string (ByteArray.mk #[]))), (1, .const (.string (ByteArray.mk #[45]))), (2, .const (.string (ByteArray.mk #[97]))), (3, .const (.string (ByteArray.mk #[105, 102]))), (4, .const (.string (ByteArray.mk #[43]))), (5, .const (.string (ByteArray.mk #[110, 111, 112, 101])))]) Tryz.underlying58 t9 rfl (by decide) (by intro _; rfl) rfl (by decide) (by decide) rfl rfl rfl) (fun v123 _ => prs_nil) (fun v123 _ => ?_)) (nx_cons (nx_memJ 9 [9, 8, 7, 5, 4] [] (fun _ => []) rfl rfl rfl rfl rfl rfl rfl rfl rfl (fun _ _ => rfl) rfl (ms_callN (xs := [.tmp 125, .const (.int .i64 6)]) (mod_spec (q1.tdiv 9) 6 (by omega)) cb34 [] [] [] rfl rfl rfl rfl rfl rfl rfl rfl (fun _ _ => rfl) (fun _ _ _ => rfl)) (fun _ _ => prs_nil) (fun _ _ => ?_)) (nx_cons (nx_memJ 16 [16, 5, 4] [] (fun v133 => []) rfl rfl rfl rfl rfl rfl rfl rfl rfl (fun _ _ => rfl) rfl (ms_bslice1 eTy yZ Tryz.underlying51 t53 rfl (by decide) (by decide) rfl rfl rfl) (fun v133 _ => prs_nil) (fun v133 _ => ?_)) nx_nil)))) | refine stg_is [6] (stg_altsJ [0, 1, 2, 3, 4, 7, 8, 15] rfl rfl (prs_cons (pri rfl (p_move rfl)) (prs_cons (pri rfl (p_nilCheck rfl)) (prs_cons (pri rfl (p_field fo63_2 rfl)) (prs_cons (pri rfl (p_load1 t51 rfl rfl (g_elp (hs_own (k := 41) rfl) (by intro _; rfl) hlm rfl))) (prs_cons (pri rfl (p_move rfl)) (prs_cons (pri rfl (p_move rfl)) (prs_cons (pri rfl (p_bin rfl rfl (b_quo (by decide) (tdiv9 o1)))) (prs_cons (pri rfl (p_len_sl Tryz.underlying51 rfl (hs_own (k := 43) rfl))) prs_nil)))))))) rfl [5, 16] rfl rfl (nx_cons (nx_memJ 5 [6, 5, 4] [] (fun _ => []) rfl rfl rfl rfl rfl rfl rfl rfl rfl (fun _ _ => rfl) rfl (ms_callN (xs := [.tmp 121, .const (.int .i64 9)]) (mod_spec q1 9 (by omega)) cb34 [] [] [] rfl rfl rfl rfl rfl rfl rfl rfl (fun _ _ => rfl) (fun _ _ _ => rfl)) (fun _ _ => prs_nil) (fun _ _ => ?_)) (nx_cons (nx_memJ 16 [16, 6] [] (fun v133 => []) rfl rfl rfl rfl rfl rfl rfl rfl rfl (fun _ _ => rfl) rfl (ms_bslice1 eTy yZ Tryz.underlying51 t53 rfl (by decide) (by decide) rfl rfl rfl) (fun v133 _ => prs_nil) (fun v133 _ => ?_)) nx_nil))) | refine stg_is [16] (stg_altsJ [0, 1, 2, 3, 4, 7, 8, 15] rfl rfl (prs_cons (pri rfl (p_move rfl)) (prs_cons (pri rfl (p_nilCheck rfl)) (prs_cons (pri rfl (p_field fo63_2 rfl)) (prs_cons (pri rfl (p_load1 t51 rfl rfl (g_elp (hs_own (k := 41) rfl) (by intro _; rfl) hlm rfl))) (prs_cons (pri rfl (p_move rfl)) (prs_cons (pri rfl (p_move rfl)) (prs_cons (pri rfl (p_bin rfl rfl (b_quo (by decide) (tdiv9 o1)))) (prs_cons (pri rfl (p_len_sl Tryz.underlying51 rfl (hs_own (k := 43) rfl))) prs_nil)))))))) rfl [5, 6] rfl rfl (nx_cons (nx_memJ 5 [16, 5, 4] [] (fun _ => []) rfl rfl rfl rfl rfl rfl rfl rfl rfl (fun _ _ => rfl) rfl (ms_callN (xs := [.tmp 121, .const (.int .i64 9)]) (mod_spec q1 9 (by omega)) cb34 [] [] [] rfl rfl rfl rfl rfl rfl rfl rfl (fun _ _ => rfl) (fun _ _ _ => rfl)) (fun _ _ => prs_nil) (fun _ _ => ?_)) (nx_cons (nx_memJ 6 [16, 6] [] (fun v123 => []) rfl rfl rfl rfl rfl rfl rfl rfl rfl (fun _ _ => rfl) rfl (ms_bslice eS [oNil, ⟨#[45]⟩, ⟨#[97]⟩, ⟨#[105, 102]⟩, ⟨#[43]⟩, ⟨#[110, 111, 112, 101]⟩] (parts := [(0, .const (.string (ByteArray.mk #[]))), (1, .const (.string (ByteArray.mk #[45]))), (2, .const (.string (ByteArray.mk #[97]))), (3, .const (.string (ByteArray.mk #[105, 102]))), (4, .const (.string (ByteArray.mk #[43]))), (5, .const (.string (ByteArray.mk #[110, 111, 112, 101])))]) Tryz.underlying58 t9 rfl (by decide) (by intro _; rfl) rfl (by decide) (by decide) rfl rfl rfl) (fun v123 _ => prs_nil) (fun v123 _ => ?_)) nx_nil)))
          all_goals first | refine stg_is [6, 5, 4] (stg_altsJ [0, 1, 2, 3, 7, 8, 15] rfl rfl (prs_cons (pri rfl (p_move rfl)) (prs_cons (pri rfl (p_nilCheck rfl)) (prs_cons (pri rfl (p_field fo63_2 rfl)) (prs_cons (pri rfl (p_load1 t51 rfl rfl (g_elp (hs_own (k := 41) rfl) (by intro _; rfl) hlm rfl))) (prs_cons (pri rfl (p_move rfl)) (prs_cons (pri rfl (p_bin rfl rfl (b_quo (by decide) (tdiv9 o1)))) (prs_cons (pri rfl (p_len_sl Tryz.underlying51 rfl (hs_own (k := 43) rfl))) prs_nil))))))) rfl [9, 16] rfl rfl (nx_cons (nx_memJ 9 [9, 8, 7, 6, 5, 4] [10, 11, 12] (fun _ => [(10, 127, _), (11, 128, _), (12, 129, _)]) rfl rfl rfl rfl rfl rfl rfl rfl rfl (fun _ _ => rfl) rfl (ms_callN (xs := [.tmp 125, .const (.int .i64 6)]) (mod_spec (q1.tdiv 9) 6 (by omega)) cb34 [] [] [] rfl rfl rfl rfl rfl rfl rfl rfl (fun _ _ => rfl) (fun _ _ _ => rfl)) (fun _ _ => (prs_cons (pri rfl (p_idx_sl (j := (imod (q1.tdiv 9) 6).toNat) Tryz.underlying58 t9 rfl rfl (hs_own (k := 123) rfl) (by omega) (by show _ < 6; omega))) (prs_cons (pri rfl (p_load1 t9 rfl rfl (g_el' (hs_own (k := 123) rfl) (by intro _; rfl) (getD6 (by show _ < 6; omega)) (by rfl)))) (prs_cons (pri rfl (p_build (parts := [(0, .tmp 122), (2, .tmp 128)]) t48 pl48 rfl rfl)) prs_nil)))) (fun _ _ => ?_)) (nx_cons (nx_memJ 16 [16, 6, 5, 4] [] (fun v133 => []) rfl rfl rfl rfl rfl rfl rfl rfl rfl (fun _ _ => rfl) rfl (ms_bslice1 eTy yZ Tryz.underlying51 t53 rfl (by decide) (by decide) rfl rfl rfl) (fun v133 _ => prs_nil) (fun v133 _ => ?_)) nx_nil))) | refine stg_is [9, 8, 7, 5, 4] (stg_altsJ [0, 1, 2, 3, 15] rfl rfl (prs_cons (pri rfl (p_move rfl)) (prs_cons (pri rfl (p_nilCheck rfl)) (prs_cons (pri rfl (p_field fo63_2 rfl)) (prs_cons (pri rfl (p_load1 t51 rfl rfl (g_elp (hs_own (k := 41) rfl) (by intro _; rfl) hlm rfl))) (prs_cons (pri rfl (p_len_sl Tryz.underlying51 rfl (hs_own (k := 43) rfl))) prs_nil))))) rfl [6, 16] rfl rfl (nx_cons (nx_memJ 6 [9, 8, 7, 6, 5, 4] [10, 11, 12] (fun v123 => [(10, 127, _), (11, 128, _), (12, 129, _)]) rfl rfl rfl rfl rfl rfl rfl rfl rfl (fun _ _ => rfl) rfl (ms_bslice eS [oNil, ⟨#[45]⟩, ⟨#[97]⟩, ⟨#[105, 102]⟩, ⟨#[43]⟩, ⟨#[110, 111, 112, 101]⟩] (parts := [(0, .const (.string (ByteArray.mk #[]))), (1, .const (.string (ByteArray.mk #[45]))), (2, .const (.string (ByteArray.mk #[97]))), (3, .const (.string (ByteArray.mk #[105, 102]))), (4, .const (.string (ByteArray.mk #[43]))), (5, .const (.string (ByteArray.mk #[110, 111, 112, 101])))]) Tryz.underlying58 t9 rfl (by decide) (by intro _; rfl) rfl (by decide) (by decide) rfl rfl rfl) (fun v123 _ => (prs_cons (pri rfl (p_idx_sl (j := (imod (q1.tdiv 9) 6).toNat) Tryz.underlying58 t9 rfl rfl (hs_own (k := 123) rfl) (by omega) (by show _ < 6; omega))) (prs_cons (pri rfl (p_load1 t9 rfl rfl (g_el' (hs_own (k := 123) rfl) (by intro _; rfl) (getD6 (by show _ < 6; omega)) (by rfl)))) (prs_cons (pri rfl (p_build (parts := [(0, .tmp 122), (2, .tmp 128)]) t48 pl48 rfl rfl)) prs_nil)))) (fun v123 _ => ?_)) (nx_cons (nx_memJ 16 [16, 9, 8, 7, 5, 4] [] (fun v133 => []) rfl rfl rfl rfl rfl rfl rfl rfl rfl (fun _ _ => rfl) rfl (ms_bslice1 eTy yZ Tryz.underlying51 t53 rfl (by decide) (by decide) rfl rfl rfl) (fun v133 _ => prs_nil) (fun v133 _ => ?_)) nx_nil))) | refine stg_is [16, 5, 4] (stg_altsJ [0, 1, 2, 3, 7, 8, 15] rfl rfl (prs_cons (pri rfl (p_move rfl)) (prs_cons (pri rfl (p_nilCheck rfl)) (prs_cons (pri rfl (p_field fo63_2 rfl)) (prs_cons (pri rfl (p_load1 t51 rfl rfl (g_elp (hs_own (k := 41) rfl) (by intro _; rfl) hlm rfl))) (prs_cons (pri rfl (p_move rfl)) (prs_cons (pri rfl (p_bin rfl rfl (b_quo (by decide) (tdiv9 o1)))) (prs_cons (pri rfl (p_len_sl Tryz.underlying51 rfl (hs_own (k := 43) rfl))) prs_nil))))))) rfl [6, 9] rfl rfl (nx_cons (nx_memJ 6 [16, 6, 5, 4] [] (fun v123 => []) rfl rfl rfl rfl rfl rfl rfl rfl rfl (fun _ _ => rfl) rfl (ms_bslice eS [oNil, ⟨#[45]⟩, ⟨#[97]⟩, ⟨#[105, 102]⟩, ⟨#[43]⟩, ⟨#[110, 111, 112, 101]⟩] (parts := [(0, .const (.string (ByteArray.mk #[]))), (1, .const (.string (ByteArray.mk #[45]))), (2, .const (.string (ByteArray.mk #[97]))), (3, .const (.string (ByteArray.mk #[105, 102]))), (4, .const (.string (ByteArray.mk #[43]))), (5, .const (.string (ByteArray.mk #[110, 111, 112, 101])))]) Tryz.underlying58 t9 rfl (by decide) (by intro _; rfl) rfl (by decide) (by decide) rfl rfl rfl) (fun v123 _ => prs_nil) (fun v123 _ => ?_)) (nx_cons (nx_memJ 9 [16, 9, 8, 7, 5, 4] [] (fun _ => []) rfl rfl rfl rfl rfl rfl rfl rfl rfl (fun _ _ => rfl) rfl (ms_callN (xs := [.tmp 125, .const (.int .i64 6)]) (mod_spec (q1.tdiv 9) 6 (by omega)) cb34 [] [] [] rfl rfl rfl rfl rfl rfl rfl rfl (fun _ _ => rfl) (fun _ _ _ => rfl)) (fun _ _ => prs_nil) (fun _ _ => ?_)) nx_nil))) | refine stg_is [16, 6] (stg_memJ [0, 1, 2, 3, 4, 7, 8, 15] 5 [16, 6, 5, 4] [] (fun _ => []) rfl rfl (prs_cons (pri rfl (p_move rfl)) (prs_cons (pri rfl (p_nilCheck rfl)) (prs_cons (pri rfl (p_field fo63_2 rfl)) (prs_cons (pri rfl (p_load1 t51 rfl rfl (g_elp (hs_own (k := 41) rfl) (by intro _; rfl) hlm rfl))) (prs_cons (pri rfl (p_move rfl)) (prs_cons (pri rfl (p_move rfl)) (prs_cons (pri rfl (p_bin rfl rfl (b_quo (by decide) (tdiv9 o1)))) (prs_cons (pri rfl (p_len_sl Tryz.underlying51 rfl (hs_own (k := 43) rfl))) prs_nil)))))))) rfl rfl rfl rfl rfl rfl rfl rfl rfl rfl rfl (fun _ _ => rfl) rfl (ms_callN (xs := [.tmp 121, .const (.int .i64 9)]) (mod_spec q1 9 (by omega)) cb34 [] [] [] rfl rfl rfl rfl rfl rfl rfl rfl (fun _ _ => rfl) (fun _ _ _ => rfl)) (fun _ _ => prs_nil) (fun _ _ => ?_))
          all_goals first | refine stg_is [9, 8, 7, 6, 5, 4] (stg_altsJ [0, 1, 2, 3, 10, 11, 12, 15] rfl rfl (prs_cons (pri rfl (p_move rfl)) (prs_cons (pri rfl (p_nilCheck rfl)) (prs_cons (pri rfl (p_field fo63_2 rfl)) (prs_cons (pri rfl (p_load1 t51 rfl rfl (g_elp (hs_own (k := 41) rfl) (by intro _; rfl) hlm rfl))) (prs_cons (pri rfl (p_idx_sl (j := (imod (q1.tdiv 9) 6).toNat) Tryz.underlying58 t9 rfl rfl (hs_own (k := 123) rfl) (by omega) (by show _ < 6; omega))) (prs_cons (pri rfl (p_load1 t9 rfl rfl (g_el' (hs_own (k := 123) rfl) (by intro _; rfl) (getD6 (by show _ < 6; omega)) (by rfl)))) (prs_cons (pri rfl (p_build (parts := [(0, .tmp 122), (2, .tmp 128)]) t48 pl48 rfl rfl)) (prs_cons (pri rfl (p_len_sl Tryz.underlying51 rfl (hs_own (k := 43) rfl))) prs_nil)))))))) rfl [13, 16] rfl rfl (nx_cons (nx_memJ 13 [13, 12, 11, 10, 9, 8, 7, 6, 5, 4] [14] (fun v130 => [(14, 131, _)]) rfl rfl rfl rfl rfl rfl rfl rfl rfl (fun _ _ => rfl) rfl (ms_bslice1 eTx (.mk (imod q1 9) 0 (([oNil, ⟨#[45]⟩, ⟨#[97]⟩, ⟨#[105, 102]⟩, ⟨#[43]⟩, ⟨#[110, 111, 112, 101]⟩] : List ByteArray).getD (imod (q1.tdiv 9) 6).toNat oNil) nilS []) Tryz.underlying46 t48 rfl (by decide) (by decide) rfl rfl rfl) (fun v130 _ => (prs_cons (pri rfl (p_build (parts := [(0, .const (.int .i64 7)), (2, .tmp 130)]) t53 pl53 rfl rfl)) prs_nil)) (fun v130 _ => ?_)) (nx_cons (nx_memJ 16 [16, 9, 8, 7, 6, 5, 4] [] (fun v133 => []) rfl rfl rfl rfl rfl rfl rfl rfl rfl (fun _ _ => rfl) rfl (ms_bslice1 eTy yZ Tryz.underlying51 t53 rfl (by decide) (by decide) rfl rfl rfl) (fun v133 _ => prs_nil) (fun v133 _ => ?_)) nx_nil))) | refine stg_is [16, 6, 5, 4] (stg_memJ [0, 1, 2, 3, 7, 8, 15] 9 [16, 9, 8, 7, 6, 5, 4] [10, 11, 12] (fun _ => [(10, 127, _), (11, 128, _), (12, 129, _)]) rfl rfl (prs_cons (pri rfl (p_move rfl)) (prs_cons (pri rfl (p_nilCheck rfl)) (prs_cons (pri rfl (p_field fo63_2 rfl)) (prs_cons (pri rfl (p_load1 t51 rfl rfl (g_elp (hs_own (k := 41) rfl) (by intro _; rfl) hlm rfl))) (prs_cons (pri rfl (p_move rfl)) (prs_cons (pri rfl (p_bin rfl rfl (b_quo (by decide) (tdiv9 o1)))) (prs_cons (pri rfl (p_len_sl Tryz.underlying51 rfl (hs_own (k := 43) rfl))) prs_nil))))))) rfl rfl rfl rfl rfl rfl rfl rfl rfl rfl rfl (fun _ _ => rfl) rfl (ms_callN (xs := [.tmp 125, .const (.int .i64 6)]) (mod_spec (q1.tdiv 9) 6 (by omega)) cb34 [] [] [] rfl rfl rfl rfl rfl rfl rfl rfl (fun _ _ => rfl) (fun _ _ _ => rfl)) (fun _ _ => (prs_cons (pri rfl (p_idx_sl (j := (imod (q1.tdiv 9) 6).toNat) Tryz.underlying58 t9 rfl rfl (hs_own (k := 123) rfl) (by omega) (by show _ < 6; omega))) (prs_cons (pri rfl (p_load1 t9 rfl rfl (g_el' (hs_own (k := 123) rfl) (by intro _; rfl) (getD6 (by show _ < 6; omega)) (by rfl)))) (prs_cons (pri rfl (p_build (parts := [(0, .tmp 122), (2, .tmp 128)]) t48 pl48 rfl rfl)) prs_nil)))) (fun _ _ => ?_)) | refine stg_is [16, 9, 8, 7, 5, 4] (stg_memJ [0, 1, 2, 3, 15] 6 [16, 9, 8, 7, 6, 5, 4] [10, 11, 12] (fun v123 => [(10, 127, _), (11, 128, _), (12, 129, _)]) rfl rfl (prs_cons (pri rfl (p_move rfl)) (prs_cons (pri rfl (p_nilCheck rfl)) (prs_cons (pri rfl (p_field fo63_2 rfl)) (prs_cons (pri rfl (p_load1 t51 rfl rfl (g_elp (hs_own (k := 41) rfl) (by intro _; rfl) hlm rfl))) (prs_cons (pri rfl (p_len_sl Tryz.underlying51 rfl (hs_own (k := 43) rfl))) prs_nil))))) rfl rfl rfl rfl rfl rfl rfl rfl rfl rfl rfl (fun _ _ => rfl) rfl (ms_bslice eS [oNil, ⟨#[45]⟩, ⟨#[97]⟩, ⟨#[105, 102]⟩, ⟨#[43]⟩, ⟨#[110, 111, 112, 101]⟩] (parts := [(0, .const (.string (ByteArray.mk #[]))), (1, .const (.string (ByteArray.mk #[45]))), (2, .const (.string (ByteArray.mk #[97]))), (3, .const (.string (ByteArray.mk #[105, 102]))), (4, .const (.string (ByteArray.mk #[43]))), (5, .const (.string (ByteArray.mk #[110, 111, 112, 101])))]) Tryz.underlying58 t9 rfl (by decide) (by intro _; rfl) rfl (by decide) (by decide) rfl rfl rfl) (fun v123 _ => (prs_cons (pri rfl (p_idx_sl (j := (imod (q1.tdiv 9) 6).toNat) Tryz.underlying58 t9 rfl rfl (hs_own (k := 123) rfl) (by omega) (by show _ < 6; omega))) (prs_cons (pri rfl (p_load1 t9 rfl rfl (g_el' (hs_own (k := 123) rfl) (by intro _; rfl) (getD6 (by show _ < 6; omega)) (by rfl)))) (prs_cons (pri rfl (p_build (parts := [(0, .tmp 122), (2, .tmp 128)]) t48 pl48 rfl rfl)) prs_nil)))) (fun v123 _ => ?_))
          all_goals first | refine stg_is [13, 12, 11, 10, 9, 8, 7, 6, 5, 4] (stg_memJ [0, 1, 2, 3, 14, 15] 16 [16, 13, 12, 11, 10, 9, 8, 7, 6, 5, 4] [] (fun v133 => []) rfl rfl (prs_cons (pri rfl (p_move rfl)) (prs_cons (pri rfl (p_nilCheck rfl)) (prs_cons (pri rfl (p_field fo63_2 rfl)) (prs_cons (pri rfl (p_load1 t51 rfl rfl (g_elp (hs_own (k := 41) rfl) (by intro _; rfl) hlm rfl))) (prs_cons (pri rfl (p_build (parts := [(0, .const (.int .i64 7)), (2, .tmp 130)]) t53 pl53 rfl rfl)) (prs_cons (pri rfl (p_len_sl Tryz.underlying51 rfl (hs_own (k := 43) rfl))) prs_nil)))))) rfl rfl rfl rfl rfl rfl rfl rfl rfl rfl rfl (fun _ _ => rfl) rfl (ms_bslice1 eTy yZ Tryz.underlying51 t53 rfl (by decide) (by decide) rfl rfl rfl) (fun v133 _ => prs_nil) (fun v133 _ => ?_)) | refine stg_is [16, 9, 8, 7, 6, 5, 4] (stg_memJ [0, 1, 2, 3, 10, 11, 12, 15] 13 [16, 13, 12, 11, 10, 9, 8, 7, 6, 5, 4] [14] (fun v130 => [(14, 131, _)]) rfl rfl (prs_cons (pri rfl (p_move rfl)) (prs_cons (pri rfl (p_nilCheck rfl)) (prs_cons (pri rfl (p_field fo63_2 rfl)) (prs_cons (pri rfl (p_load1 t51 rfl rfl (g_elp (hs_own (k := 41) rfl) (by intro _; rfl) hlm rfl))) (prs_cons (pri rfl (p_idx_sl (j := (imod (q1.tdiv 9) 6).toNat) Tryz.underlying58 t9 rfl rfl (hs_own (k := 123) rfl) (by omega) (by show _ < 6; omega))) (prs_cons (pri rfl (p_load1 t9 rfl rfl (g_el' (hs_own (k := 123) rfl) (by intro _; rfl) (getD6 (by show _ < 6; omega)) (by rfl)))) (prs_cons (pri rfl (p_build (parts := [(0, .tmp 122), (2, .tmp 128)]) t48 pl48 rfl rfl)) (prs_cons (pri rfl (p_len_sl Tryz.underlying51 rfl (hs_own (k := 43) rfl))) prs_nil)))))))) rfl rfl rfl rfl rfl rfl rfl rfl rfl rfl rfl (fun _ _ => rfl) rfl (ms_bslice1 eTx (.mk (imod q1 9) 0 (([oNil, ⟨#[45]⟩, ⟨#[97]⟩, ⟨#[105, 102]⟩, ⟨#[43]⟩, ⟨#[110, 111, 112, 101]⟩] : List ByteArray).getD (imod (q1.tdiv 9) 6).toNat oNil) nilS []) Tryz.underlying46 t48 rfl (by decide) (by decide) rfl rfl rfl) (fun v130 _ => (prs_cons (pri rfl (p_build (parts := [(0, .const (.int .i64 7)), (2, .tmp 130)]) t53 pl53 rfl rfl)) prs_nil)) (fun v130 _ => ?_))
          all_goals first | refine stg_is [16, 13, 12, 11, 10, 9, 8, 7, 6, 5, 4] (stg_memJ [0, 1, 2, 3, 14, 15] 17 [17, 16, 15, 14, 13, 12, 11, 10, 9, 8, 7, 6, 5, 4, 3, 2, 1, 0] [18, 20, 21] (fun v134 => [(18, 135, _), (20, 136, _), (21, 137, _)]) rfl rfl (prs_cons (pri rfl (p_move rfl)) (prs_cons (pri rfl (p_nilCheck rfl)) (prs_cons (pri rfl (p_field fo63_2 rfl)) (prs_cons (pri rfl (p_load1 t51 rfl rfl (g_elp (hs_own (k := 41) rfl) (by intro _; rfl) hlm rfl))) (prs_cons (pri rfl (p_build (parts := [(0, .const (.int .i64 7)), (2, .tmp 130)]) t53 pl53 rfl rfl)) (prs_cons (pri rfl (p_len_sl Tryz.underlying51 rfl (hs_own (k := 43) rfl))) prs_nil)))))) rfl rfl rfl rfl rfl rfl rfl rfl rfl rfl rfl (fun _ _ => rfl) rfl (ms_append 43 Tryz.underlying51 t53 rfl (by decide) (fun _ => rfl) (fun _ => rfl) rfl rfl rfl (hs_own (k := 133) rfl) (by simp only [List.length_singleton]; omega) (by unfold maxLen; simp only [List.length_singleton]; omega)) (fun v134 _ => (prs_cons (pri rfl (p_idx_sl (j := fm.body.length) Tryz.underlying51 t53 rfl rfl (hs_own (k := 43) rfl) rfl (by rw [List.length_append, List.length_singleton]; omega))) (prs_cons (pri rfl (p_nilCheck rfl)) (prs_cons (pri rfl (p_field fo63_2 rfl)) prs_nil)))) (fun v134 _ => ?_))
          all_goals first | refine stg_is [17, 16, 15, 14, 13, 12, 11, 10, 9, 8, 7, 6, 5, 4, 3, 2, 1, 0] (stg_altsJ [18, 20, 21] rfl rfl (prs_cons (pri rfl (p_idx_sl (j := fm.body.length) Tryz.underlying51 t53 rfl rfl (hs_own (k := 43) rfl) rfl (by rw [List.length_append, List.length_singleton]; omega))) (prs_cons (pri rfl (p_nilCheck rfl)) (prs_cons (pri rfl (p_field fo63_2 rfl)) prs_nil))) rfl [19, 22] rfl rfl (nx_cons (nx_mem0J 19 [19, 18, 17, 16, 15, 14, 13, 12, 11, 10, 9, 8, 7, 6, 5, 4, 3, 2, 1, 0] [] (fun _ => []) rfl rfl rfl rfl rfl rfl rfl (fun _ _ => rfl) rfl (ms_store_el (k := 43) (e' := (yE 7 oNil v130 (.mk (imod q1 9) 0 (([oNil, ⟨#[45]⟩, ⟨#[97]⟩, ⟨#[105, 102]⟩, ⟨#[43]⟩, ⟨#[110, 111, 112, 101]⟩] : List ByteArray).getD (imod (q1.tdiv 9) 6).toNat oNil) nilS []))) t53 rfl rfl rfl (by intro _; rfl) (show (fm.body ++ [yZ])[fm.body.length]? = some yZ by rw [List.getElem?_append_right (Nat.le_refl _), Nat.sub_self]; rfl) rfl rfl) (fun _ _ => prs_nil) (fun _ _ => ?_)) (nx_cons (nx_mem0J 22 [22, 21, 20, 17, 16, 15, 14, 13, 12, 11, 10, 9, 8, 7, 6, 5, 4, 3, 2, 1, 0] [] (fun _ => []) rfl rfl rfl rfl rfl rfl rfl (fun _ _ => rfl) rfl (ms_store_own (k := 41) (o := 2) (e' := { fm with vp := pm, vb := v134, body := fm.body ++ [(yE 7 oNil v130 (.mk (imod q1 9) 0 (([oNil, ⟨#[45]⟩, ⟨#[97]⟩, ⟨#[105, 102]⟩, ⟨#[43]⟩, ⟨#[110, 111, 112, 101]⟩] : List ByteArray).getD (imod (q1.tdiv 9) 6).toNat oNil) nilS []))] }) t51 rfl rfl rfl rfl rfl rfl (by intro _; rfl) hlm (by show _ + 1 ≤ _; decide) rfl) (fun _ _ => prs_nil) (fun _ _ => ?_)) nx_nil)))
          all_goals first | refine stg_is [19, 18, 17, 16, 15, 14, 13, 12, 11, 10, 9, 8, 7, 6, 5, 4, 3, 2, 1, 0] (stg_mem0J [20, 21] 22 [22, 21, 20, 19, 18, 17, 16, 15, 14, 13, 12, 11, 10, 9, 8, 7, 6, 5, 4, 3, 2, 1, 0] [] (fun _ => []) rfl rfl (prs_cons (pri rfl (p_nilCheck rfl)) (prs_cons (pri rfl (p_field fo63_2 rfl)) prs_nil)) rfl rfl rfl rfl rfl rfl rfl rfl rfl (fun _ _ => rfl) rfl (ms_store_own (k := 41) (o := 2) (e' := { fm with vp := pm, vb := v134, body := fm.body ++ [(yE 7 oNil v130 (.mk (imod q1 9) 0 (([oNil, ⟨#[45]⟩, ⟨#[97]⟩, ⟨#[105, 102]⟩, ⟨#[43]⟩, ⟨#[110, 111, 112, 101]⟩] : List ByteArray).getD (imod (q1.tdiv 9) 6).toNat oNil) nilS []))] }) t51 rfl rfl rfl rfl rfl rfl (by intro _; rfl) hlm (by show _ + 1 ≤ _; decide) rfl) (fun _ _ => prs_nil) (fun _ _ => ?_)) | refine stg_is [22, 21, 20, 17, 16, 15, 14, 13, 12, 11, 10, 9, 8, 7, 6, 5, 4, 3, 2, 1, 0] (stg_mem0J [18] 19 [22, 21, 20, 19, 18, 17, 16, 15, 14, 13, 12, 11, 10, 9, 8, 7, 6, 5, 4, 3, 2, 1, 0] [] (fun _ => []) rfl rfl (prs_cons (pri rfl (p_idx_sl (j := fm.body.length) Tryz.underlying51 t53 rfl rfl (hs_own (k := 43) rfl) rfl (by rw [List.length_append, List.length_singleton]; omega))) prs_nil) rfl rfl rfl rfl rfl rfl rfl rfl rfl (fun _ _ => rfl) rfl (ms_store_el (k := 43) (e' := (yE 7 oNil v130 (.mk (imod q1 9) 0 (([oNil, ⟨#[45]⟩, ⟨#[97]⟩, ⟨#[105, 102]⟩, ⟨#[43]⟩, ⟨#[110, 111, 112, 101]⟩] : List ByteArray).getD (imod (q1.tdiv 9) 6).toNat oNil) nilS []))) t53 rfl rfl rfl (by intro _; rfl) (show (fm.body ++ [yZ])[fm.body.length]? = some yZ by rw [List.getElem?_append_right (Nat.le_refl _), Nat.sub_self]; rfl) rfl rfl) (fun _ _ => prs_nil) (fun _ _ => ?_))
          all_goals first | refine stg_is [22, 21, 20, 19, 18, 17, 16, 15, 14, 13, 12, 11, 10, 9, 8, 7, 6, 5, 4, 3, 2, 1, 0] (stg_endJ [] rfl rfl prs_nil rfl rfl rfl ?_)
          all_goals
           refine r_collect 50 [0, 40, 41, 42, 43, 130] (C := tf2A vp fs v7 (l.set m { fm with vp := pm, vb := v134, body := fm.body ++ [(yE 7 oNil v130 (.mk (imod q1 9) 0 (([oNil, ⟨#[45]⟩, ⟨#[97]⟩, ⟨#[105, 102]⟩, ⟨#[43]⟩, ⟨#[110, 111, 112, 101]⟩] : List ByteArray).getD (imod (q1.tdiv 9) 6).toNat oNil) nilS []))] })) rfl (fun w F h => app_all hfm hcp hlen (one_in tx0) h) ?_
           refine r_here (l.set m { fm with vp := pm, vb := v134, body := fm.body ++ [(yE 7 oNil v130 (.mk (imod q1 9) 0 (([oNil, ⟨#[45]⟩, ⟨#[97]⟩, ⟨#[105, 102]⟩, ⟨#[43]⟩, ⟨#[110, 111, 112, 101]⟩] : List ByteArray).getD (imod (q1.tdiv 9) 6).toNat oNil) nilS []))] }) (gpk_set hg0 hcp hlen (gfk_app hgf (ye_gy (nmB_of rfl) ⟨oW0, nmB6 _, Nat.zero_le _, trivial⟩) (Nat.le_of_ble_eq_true rfl))) rfl rfl rfl
         ·have z6 : ¬ imod q0 9 = 6 := of_decide_eq_false h8
          refine r_seq (r_region ?_)
          refine r_p (p_bin rfl rfl b_eq) rfl ?_
          refine r_p (p_assign rfl) rfl (r_nil ?_)
          refine r_cond rfl (fun h9 => ?_) (fun h9 => ?_)
          ·have z7 : imod q0 9 = 7 := of_decide_eq_true h9
           refine r_seq (r_region ?_)
           refine r_p (p_build (parts := [(0, .const (.int .i64 5))]) t48 pl48 rfl rfl) rfl ?_
           refine r_alloc t48 rfl rfl fun b9 => ?_
           refine r_store_all (k := 9) t48 rfl rfl rfl rfl rfl rfl ?_
           refine r_nil (r_seq (r_seq (r_region (r_p (p_assign rfl) rfl (r_nil (r_block ?_))))))
           refine r_collect 62 [] (L := []) (C := txA1 tIn) rfl (fun w F _ => show TxIn w F tIn from tx0) ?_
           refine r_loop (X := Nat × Tx) (fun x => x.1 ≤ 10 ∧ (x.1 : Int) ≤ 6 + imod q1 4 ∧ GX x.2 ∧ nX x.2 ≤ x.1 + 1) (fun x => [(2, .pointer (some ⟨b2, 0, none⟩)), (4, .pointer (some ⟨b4, 0, none⟩)), (7, .pointer (some ⟨b7, 0, none⟩)), (6, .int .i64 q1), (8, .pointer (some ⟨sblk (sv v7), soff (sv v7) + m * 3, none⟩)), (9, .pointer (some ⟨b9, 0, none⟩)), (10, .int .i64 (x.1 : Int))]) (fun x => [(2, row b2 29 [sv vp]), (4, row b4 29 [.slice none 0 0]), (7, row b7 29 [sv v7]), (0, tfsA vp fs), (40, shA m l), (41, own 63 3 eTf (sv v7) l), (42, own 9 1 eS (sv pm) fm.ps), (43, own 53 5 eTy (sv bm) fm.body), (9, row b9 48 (eTx x.2)), (62, txA1 x.2)]) (fun x => []) (fun x => 10 - x.1) (0, tIn) ⟨by decide, by dsimp only; omega, gx_in, by decide⟩ rfl rfl rfl (fun x hx0 => ?_)
           obtain ⟨i, e⟩ := x
           obtain ⟨ni, ni2, ne2, ne3⟩ := hx0
           dsimp only at ni ni2 ne2 ne3 ⊢
           refine r_seq (r_seq (r_region (r_p (p_move rfl) rfl (r_p (p_move rfl) rfl ?_))))
           refine r_callN (xs := [.tmp 142, .const (.int .i64 4)]) (mod_spec q1 4 (by omega)) cb34 [] [] [] rfl rfl rfl rfl rfl rfl rfl rfl (fun _ _ => rfl) (fun _ _ _ => rfl) rfl (fun _ _ => ?_)
           refine r_p (p_bin rfl rfl (b_add (by first | exact w_i64 (by omega) (by omega) | rfl))) rfl ?_
           refine r_p (p_bin rfl rfl b_lt) rfl ?_
           refine r_nil ?_
           refine r_cond rfl (fun h10 => ?_) (fun h10 => ?_)
           ·(try simp only [decide_eq_true_eq, decide_eq_false_iff_not, Bool.and_eq_true, Bool.or_eq_true, Bool.and_eq_false_iff, Bool.or_eq_false_iff, Bool.not_eq_true, Bool.not_eq_false, Bool.not_eq_true', Bool.not_eq_false', Bool.not_not, bne_iff_ne, beq_iff_eq] at h10)
            have hi : (i : Int) < 6 + imod q1 4 := h10
            refine r_skip (r_seq (r_block (r_region ?_)))
            refine r_p (p_loadA t48 rfl rfl rfl (g_all (k := 9) rfl)) rfl ?_
            refine r_bslice1 eTx e Tryz.underlying46 t48 rfl (by decide) (by decide) rfl rfl rfl rfl fun v149 => ?_
            refine r_p (p_build (parts := [(0, .const (.int .i64 6)), (2, .const (.string (ByteArray.mk #[33]))), (3, .tmp 149)]) t48 pl48 rfl rfl) rfl ?_
            refine r_store_all (k := 9) t48 rfl rfl rfl rfl rfl rfl ?_
            refine r_nil (r_region (r_p (p_move rfl) rfl ?_))
            refine r_p (p_bin rfl rfl (b_add (by first | exact w_i64 (by omega) (by omega) | rfl))) rfl ?_
            refine r_p (p_assign rfl) rfl (r_nil ?_)
            refine r_collect 62 [62, 149] (L := [txA1 e, own 48 4 eTx (sv v149) [e]]) (C := txA1 (.mk 6 0 oNot v149 [e])) rfl (fun w F h => by
             obtain ⟨⟨_, a0, b0⟩, ⟨_, a1, b1⟩, _⟩ := h
             exact ⟨own_in a1 b1, TxIn.mono b0 (fun _ _ => rfl) _ a0, trivial⟩) ?_
            refine r_here (i + 1, .mk 6 0 oNot v149 [e]) ⟨⟨by dsimp only; omega, by dsimp only; omega, ⟨oW0, nmB_of rfl, by show 1 ≤ 1000000; decide, ne2, trivial⟩, by show (nX e + 0) + 1 ≤ i + 1 + 1; omega⟩, by dsimp only; omega⟩ rfl rfl rfl
           ·(try simp only [decide_eq_true_eq, decide_eq_false_iff_not, Bool.and_eq_true, Bool.or_eq_true, Bool.and_eq_false_iff, Bool.or_eq_false_iff, Bool.not_eq_true, Bool.not_eq_false, Bool.not_eq_true', Bool.not_eq_false', Bool.not_not, bne_iff_ne, beq_iff_eq] at h10)
            have hi : ¬ (i : Int) < 6 + imod q1 4 := h10
            refine r_exit ?_
            refine r_drawM [0, 1, 2, 3, 4, 5, 6, 7, 8, 9, 10, 11, 12, 13, 14] [0, 1, 2, 3, 4, 5, 6, 7, 8, 9, 13, 14, 10, 11, 12] [151, 152, 153, 154, 155, 156, 157, 158, 159, 160, 161, 162, 163] _ rfl rfl rfl (stg_altsJ (V := [(0, 151, _), (1, 152, _), (2, 153, _), (3, 154, _), (4, 155, _), (7, 158, _)]) [0, 1, 2, 3, 4, 7] rfl rfl (prs_cons (pri rfl (p_move rfl)) (prs_cons (pri rfl (p_nilCheck rfl)) (prs_cons (pri rfl (p_field fo63_2 rfl)) (prs_cons (pri rfl (p_load1 t51 rfl rfl (g_elp (hs_own (k := 41) rfl) (by intro _; rfl) hlm rfl))) (prs_cons (pri rfl (p_loadA t48 rfl rfl rfl (g_all (k := 9) rfl))) (prs_cons (pri rfl (p_len_sl Tryz.underlying51 rfl (hs_own (k := 43) rfl))) prs_nil)))))) rfl [5, 8] rfl rfl (nx_cons (nx_memJ 5 [5, 4] [6] (fun v156 => [(6, 157, _)]) rfl rfl rfl rfl rfl rfl rfl rfl rfl (fun _ _ => rfl) rfl (ms_bslice1 eTx e Tryz.underlying46 t48 rfl (by decide) (by decide) rfl rfl rfl) (fun v156 _ => (prs_cons (pri rfl (p_build (parts := [(0, .const (.int .i64 8)), (2, .tmp 156)]) t53 pl53 rfl rfl)) prs_nil)) (fun v156 _ => ?_)) (nx_cons (nx_memJ 8 [8] [] (fun v159 => []) rfl rfl rfl rfl rfl rfl rfl rfl rfl (fun _ _ => rfl) rfl (ms_bslice1 eTy yZ Tryz.underlying51 t53 rfl (by decide) (by decide) rfl rfl rfl) (fun v159 _ => prs_nil) (fun v159 _ => ?_)) nx_nil)))
            all_goals first | refine stg_is [5, 4] (stg_memJ [0, 1, 2, 3, 6, 7] 8 [8, 5, 4] [] (fun v159 => []) rfl rfl (prs_cons (pri rfl (p_move rfl)) (prs_cons (pri rfl (p_nilCheck rfl)) (prs_cons (pri rfl (p_field fo63_2 rfl)) (prs_cons (pri rfl (p_load1 t51 rfl rfl (g_elp (hs_own (k := 41) rfl) (by intro _; rfl) hlm rfl))) (prs_cons (pri rfl (p_build (parts := [(0, .const (.int .i64 8)), (2, .tmp 156)]) t53 pl53 rfl rfl)) (prs_cons (pri rfl (p_len_sl Tryz.underlying51 rfl (hs_own (k := 43) rfl))) prs_nil)))))) rfl rfl rfl rfl rfl rfl rfl rfl rfl rfl rfl (fun _ _ => rfl) rfl (ms_bslice1 eTy yZ Tryz.underlying51 t53 rfl (by decide) (by decide) rfl rfl rfl) (fun v159 _ => prs_nil) (fun v159 _ => ?_)) | refine stg_is [8] (stg_memJ [0, 1, 2, 3, 4, 7] 5 [8, 5, 4] [6] (fun v156 => [(6, 157, _)]) rfl rfl (prs_cons (pri rfl (p_move rfl)) (prs_cons (pri rfl (p_nilCheck rfl)) (prs_cons (pri rfl (p_field fo63_2 rfl)) (prs_cons (pri rfl (p_load1 t51 rfl rfl (g_elp (hs_own (k := 41) rfl) (by intro _; rfl) hlm rfl))) (prs_cons (pri rfl (p_loadA t48 rfl rfl rfl (g_all (k := 9) rfl))) (prs_cons (pri rfl (p_len_sl Tryz.underlying51 rfl (hs_own (k := 43) rfl))) prs_nil)))))) rfl rfl rfl rfl rfl rfl rfl rfl rfl rfl rfl (fun _ _ => rfl) rfl (ms_bslice1 eTx e Tryz.underlying46 t48 rfl (by decide) (by decide) rfl rfl rfl) (fun v156 _ => (prs_cons (pri rfl (p_build (parts := [(0, .const (.int .i64 8)), (2, .tmp 156)]) t53 pl53 rfl rfl)) prs_nil)) (fun v156 _ => ?_))
            all_goals first | refine stg_is [8, 5, 4] (stg_memJ [0, 1, 2, 3, 6, 7] 9 [9, 8, 7, 6, 5, 4, 3, 2, 1, 0] [10, 12, 13] (fun v160 => [(10, 161, _), (12, 162, _), (13, 163, _)]) rfl rfl (prs_cons (pri rfl (p_move rfl)) (prs_cons (pri rfl (p_nilCheck rfl)) (prs_cons (pri rfl (p_field fo63_2 rfl)) (prs_cons (pri rfl (p_load1 t51 rfl rfl (g_elp (hs_own (k := 41) rfl) (by intro _; rfl) hlm rfl))) (prs_cons (pri rfl (p_build (parts := [(0, .const (.int .i64 8)), (2, .tmp 156)]) t53 pl53 rfl rfl)) (prs_cons (pri rfl (p_len_sl Tryz.underlying51 rfl (hs_own (k := 43) rfl))) prs_nil)))))) rfl rfl rfl rfl rfl rfl rfl rfl rfl rfl rfl (fun _ _ => rfl) rfl (ms_append 43 Tryz.underlying51 t53 rfl (by decide) (fun _ => rfl) (fun _ => rfl) rfl rfl rfl (hs_own (k := 159) rfl) (by simp only [List.length_singleton]; omega) (by unfold maxLen; simp only [List.length_singleton]; omega)) (fun v160 _ => (prs_cons (pri rfl (p_idx_sl (j := fm.body.length) Tryz.underlying51 t53 rfl rfl (hs_own (k := 43) rfl) rfl (by rw [List.length_append, List.length_singleton]; omega))) (prs_cons (pri rfl (p_nilCheck rfl)) (prs_cons (pri rfl (p_field fo63_2 rfl)) prs_nil)))) (fun v160 _ => ?_))
            all_goals first | refine stg_is [9, 8, 7, 6, 5, 4, 3, 2, 1, 0] (stg_altsJ [10, 12, 13] rfl rfl (prs_cons (pri rfl (p_idx_sl (j := fm.body.length) Tryz.underlying51 t53 rfl rfl (hs_own (k := 43) rfl) rfl (by rw [List.length_append, List.length_singleton]; omega))) (prs_cons (pri rfl (p_nilCheck rfl)) (prs_cons (pri rfl (p_field fo63_2 rfl)) prs_nil))) rfl [11, 14] rfl rfl (nx_cons (nx_mem0J 11 [11, 10, 9, 8, 7, 6, 5, 4, 3, 2, 1, 0] [] (fun _ => []) rfl rfl rfl rfl rfl rfl rfl (fun _ _ => rfl) rfl (ms_store_el (k := 43) (e' := (yE 8 oNil v156 e)) t53 rfl rfl rfl (by intro _; rfl) (show (fm.body ++ [yZ])[fm.body.length]? = some yZ by rw [List.getElem?_append_right (Nat.le_refl _), Nat.sub_self]; rfl) rfl rfl) (fun _ _ => prs_nil) (fun _ _ => ?_)) (nx_cons (nx_mem0J 14 [14, 13, 12, 9, 8, 7, 6, 5, 4, 3, 2, 1, 0] [] (fun _ => []) rfl rfl rfl rfl rfl rfl rfl (fun _ _ => rfl) rfl (ms_store_own (k := 41) (o := 2) (e' := { fm with vp := pm, vb := v160, body := fm.body ++ [(yE 8 oNil v156 e)] }) t51 rfl rfl rfl rfl rfl rfl (by intro _; rfl) hlm (by show _ + 1 ≤ _; decide) rfl) (fun _ _ => prs_nil) (fun _ _ => ?_)) nx_nil)))
            all_goals first | refine stg_is [11, 10, 9, 8, 7, 6, 5, 4, 3, 2, 1, 0] (stg_mem0J [12, 13] 14 [14, 13, 12, 11, 10, 9, 8, 7, 6, 5, 4, 3, 2, 1, 0] [] (fun _ => []) rfl rfl (prs_cons (pri rfl (p_nilCheck rfl)) (prs_cons (pri rfl (p_field fo63_2 rfl)) prs_nil)) rfl rfl rfl rfl rfl rfl rfl rfl rfl (fun _ _ => rfl) rfl (ms_store_own (k := 41) (o := 2) (e' := { fm with vp := pm, vb := v160, body := fm.body ++ [(yE 8 oNil v156 e)] }) t51 rfl rfl rfl rfl rfl rfl (by intro _; rfl) hlm (by show _ + 1 ≤ _; decide) rfl) (fun _ _ => prs_nil) (fun _ _ => ?_)) | refine stg_is [14, 13, 12, 9, 8, 7, 6, 5, 4, 3, 2, 1, 0] (stg_mem0J [10] 11 [14, 13, 12, 11, 10, 9, 8, 7, 6, 5, 4, 3, 2, 1, 0] [] (fun _ => []) rfl rfl (prs_cons (pri rfl (p_idx_sl (j := fm.body.length) Tryz.underlying51 t53 rfl rfl (hs_own (k := 43) rfl) rfl (by rw [List.length_append, List.length_singleton]; omega))) prs_nil) rfl rfl rfl rfl rfl rfl rfl rfl rfl (fun _ _ => rfl) rfl (ms_store_el (k := 43) (e' := (yE 8 oNil v156 e)) t53 rfl rfl rfl (by intro _; rfl) (show (fm.body ++ [yZ])[fm.body.length]? = some yZ by rw [List.getElem?_append_right (Nat.le_refl _), Nat.sub_self]; rfl) rfl rfl) (fun _ _ => prs_nil) (fun _ _ => ?_))
            all_goals first | refine stg_is [14, 13, 12, 11, 10, 9, 8, 7, 6, 5, 4, 3, 2, 1, 0] (stg_endJ [] rfl rfl prs_nil rfl rfl rfl ?_)
            all_goals
             refine r_collect 50 [0, 40, 41, 42, 43, 156, 62] (C := tf2A vp fs v7 (l.set m { fm with vp := pm, vb := v160, body := fm.body ++ [(yE 8 oNil v156 e)] })) rfl (fun w F h => app_all (E := [own 48 4 eTx (sv v156) [e], txA1 e]) hfm hcp hlen (fun h => by
              obtain ⟨⟨_, a0, b0⟩, ⟨_, a1, b1⟩, _⟩ := h
              exact ye_in (own_in a0 b0) (TxIn.mono b1 (fun _ _ => rfl) _ a1)) h) ?_
             refine r_here (l.set m { fm with vp := pm, vb := v160, body := fm.body ++ [(yE 8 oNil v156 e)] }) (gpk_set hg0 hcp hlen (gfk_app hgf (ye_gy (nmB_of rfl) ne2) (by rw [ye_n]; omega))) rfl rfl rfl
          ·have z7 : ¬ imod q0 9 = 7 := of_decide_eq_false h9
           refine r_seq (r_region ?_)
           refine r_p (p_bin rfl rfl b_eq) rfl ?_
           refine r_p (p_assign rfl) rfl (r_nil ?_)
           refine r_cond rfl (fun h11 => ?_) (fun h11 => ?_)
           ·have z8 : imod q0 9 = 8 := of_decide_eq_true h11
            refine r_seq (r_region ?_)
            refine r_p (p_build (parts := [(0, .const (.int .i64 5))]) t48 pl48 rfl rfl) rfl ?_
            refine r_bslice1 eTx tIn Tryz.underlying46 t48 rfl (by decide) (by decide) rfl rfl rfl rfl fun v167 => ?_
            refine r_p (p_build (parts := [(0, .const (.int .i64 7)), (2, .tmp 167)]) t53 pl53 rfl rfl) rfl ?_
            refine r_alloc t53 rfl rfl fun b11 => ?_
            refine r_store_all (k := 11) t53 rfl rfl rfl rfl rfl rfl ?_
            refine r_nil (r_seq (r_seq (r_region (r_p (p_assign rfl) rfl (r_nil (r_block ?_))))))
            refine r_collect 62 [167] (L := [own 48 4 eTx (sv v167) [tIn]]) (C := tyA1 (yE 7 oNil v167 tIn)) rfl (fun w F h => one_in (k := 7) (s := oNil) tx0 h) ?_
            refine r_loop (X := Nat × Ty) (fun x => x.1 ≤ 10 ∧ (x.1 : Int) ≤ 6 + imod q1 4 ∧ GY x.2 ∧ nY x.2 ≤ 2 * x.1 + 2) (fun x => [(2, .pointer (some ⟨b2, 0, none⟩)), (4, .pointer (some ⟨b4, 0, none⟩)), (7, .pointer (some ⟨b7, 0, none⟩)), (6, .int .i64 q1), (8, .pointer (some ⟨sblk (sv v7), soff (sv v7) + m * 3, none⟩)), (11, .pointer (some ⟨b11, 0, none⟩)), (12, .int .i64 (x.1 : Int))]) (fun x => [(2, row b2 29 [sv vp]), (4, row b4 29 [.slice none 0 0]), (7, row b7 29 [sv v7]), (0, tfsA vp fs), (40, shA m l), (41, own 63 3 eTf (sv v7) l), (42, own 9 1 eS (sv pm) fm.ps), (43, own 53 5 eTy (sv bm) fm.body), (11, row b11 53 (eTy x.2)), (62, tyA1 x.2)]) (fun x => []) (fun x => 10 - x.1) (0, yE 7 oNil v167 tIn) ⟨by show 0 ≤ 10; decide, by dsimp only; omega, ye_gy (nmB_of rfl) gx_in, Nat.le_of_ble_eq_true rfl⟩ rfl rfl rfl (fun x hx0 => ?_)
            obtain ⟨i, s⟩ := x
            obtain ⟨ni, ni2, ns2, ns3⟩ := hx0
            dsimp only at ni ni2 ns2 ns3 ⊢
            refine r_seq (r_seq (r_region (r_p (p_move rfl) rfl (r_p (p_move rfl) rfl ?_))))
            refine r_callN (xs := [.tmp 170, .const (.int .i64 4)]) (mod_spec q1 4 (by omega)) cb34 [] [] [] rfl rfl rfl rfl rfl rfl rfl rfl (fun _ _ => rfl) (fun _ _ _ => rfl) rfl (fun _ _ => ?_)
            refine r_p (p_bin rfl rfl (b_add (by first | exact w_i64 (by omega) (by omega) | rfl))) rfl ?_
            refine r_p (p_bin rfl rfl b_lt) rfl ?_
            refine r_nil ?_
            refine r_cond rfl (fun h12 => ?_) (fun h12 => ?_)
            ·(try simp only [decide_eq_true_eq, decide_eq_false_iff_not, Bool.and_eq_true, Bool.or_eq_true, Bool.and_eq_false_iff, Bool.or_eq_false_iff, Bool.not_eq_true, Bool.not_eq_false, Bool.not_eq_true', Bool.not_eq_false', Bool.not_not, bne_iff_ne, beq_iff_eq] at h12)
             have hi : (i : Int) < 6 + imod q1 4 := h12
             refine r_skip (r_seq (r_block (r_region ?_)))
             refine r_p (p_build (parts := [(0, .const (.int .i64 5))]) t48 pl48 rfl rfl) rfl ?_
             refine r_bslice1 eTx tIn Tryz.underlying46 t48 rfl (by decide) (by decide) rfl rfl rfl rfl fun v177 => ?_
             refine r_p (p_loadA t53 rfl rfl rfl (g_all (k := 11) rfl)) rfl ?_
             refine r_bslice1 eTy s Tryz.underlying51 t53 rfl (by decide) (by decide) rfl rfl rfl rfl fun v179 => ?_
             refine r_p (p_build (parts := [(0, .const (.int .i64 5)), (2, .tmp 177), (3, .tmp 179)]) t53 pl53 rfl rfl) rfl ?_
             refine r_store_all (k := 11) t53 rfl rfl rfl rfl rfl rfl ?_
             refine r_nil (r_region (r_p (p_move rfl) rfl ?_))
             refine r_p (p_bin rfl rfl (b_add (by first | exact w_i64 (by omega) (by omega) | rfl))) rfl ?_
             refine r_p (p_assign rfl) rfl (r_nil ?_)
             refine r_collect 62 [62, 177, 179] (L := [tyA1 s, own 48 4 eTx (sv v177) [tIn], own 53 5 eTy (sv v179) [s]]) (C := tyA1 (.mk 5 oNil v177 [tIn] v179 [s] nilS [])) rfl (fun w F h => by
              obtain ⟨⟨_, a0, b0⟩, ⟨_, a1, b1⟩, ⟨_, a2, b2⟩, _⟩ := h
              exact ⟨⟨own_in a1 b1, tx0, trivial⟩, ⟨own_in a2 b2, TyIn.mono b0 (fun _ _ => rfl) _ a0, trivial⟩, ny0⟩) ?_
             refine r_here (i + 1, .mk 5 oNil v177 [tIn] v179 [s] nilS []) ⟨⟨by dsimp only; omega, by dsimp only; omega, ⟨nmB_of rfl, ⟨by show 1 ≤ 1000000; decide, gx_in, trivial⟩, ⟨by show 1 ≤ 1000000; decide, ns2, trivial⟩, Nat.zero_le _, trivial⟩, by show 1 + (1 + 0) + (nY s + 0) + 0 ≤ 2 * (i + 1) + 2; omega⟩, by dsimp only; omega⟩ rfl rfl rfl
            ·(try simp only [decide_eq_true_eq, decide_eq_false_iff_not, Bool.and_eq_true, Bool.or_eq_true, Bool.and_eq_false_iff, Bool.or_eq_false_iff, Bool.not_eq_true, Bool.not_eq_false, Bool.not_eq_true', Bool.not_eq_false', Bool.not_not, bne_iff_ne, beq_iff_eq] at h12)
             have hi : ¬ (i : Int) < 6 + imod q1 4 := h12
             refine r_exit ?_
             refine r_drawM [0, 1, 2, 3, 4, 5, 6, 7, 8, 9, 10, 11, 12] [0, 1, 2, 3, 4, 5, 6, 7, 11, 12, 8, 9, 10] [181, 182, 183, 184, 185, 186, 187, 188, 189, 190, 191] _ rfl rfl rfl (stg_memJ (V := [(0, 181, _), (1, 182, _), (2, 183, _), (3, 184, _), (4, 185, _), (5, 186, _)]) [0, 1, 2, 3, 4, 5] 6 [6] [] (fun v187 => []) rfl rfl (prs_cons (pri rfl (p_move rfl)) (prs_cons (pri rfl (p_nilCheck rfl)) (prs_cons (pri rfl (p_field fo63_2 rfl)) (prs_cons (pri rfl (p_load1 t51 rfl rfl (g_elp (hs_own (k := 41) rfl) (by intro _; rfl) hlm rfl))) (prs_cons (pri rfl (p_loadA t53 rfl rfl rfl (g_all (k := 11) rfl))) (prs_cons (pri rfl (p_len_sl Tryz.underlying51 rfl (hs_own (k := 43) rfl))) prs_nil)))))) rfl rfl rfl rfl rfl rfl rfl rfl rfl rfl rfl (fun _ _ => rfl) rfl (ms_bslice1 eTy yZ Tryz.underlying51 t53 rfl (by decide) (by decide) rfl rfl rfl) (fun v187 _ => prs_nil) (fun v187 _ => ?_))
             all_goals first | refine stg_is [6] (stg_memJ [0, 1, 2, 3, 4, 5] 7 [7, 6, 5, 4, 3, 2, 1, 0] [8, 10, 11] (fun v188 => [(8, 189, _), (10, 190, _), (11, 191, _)]) rfl rfl (prs_cons (pri rfl (p_move rfl)) (prs_cons (pri rfl (p_nilCheck rfl)) (prs_cons (pri rfl (p_field fo63_2 rfl)) (prs_cons (pri rfl (p_load1 t51 rfl rfl (g_elp (hs_own (k := 41) rfl) (by intro _; rfl) hlm rfl))) (prs_cons (pri rfl (p_loadA t53 rfl rfl rfl (g_all (k := 11) rfl))) (prs_cons (pri rfl (p_len_sl Tryz.underlying51 rfl (hs_own (k := 43) rfl))) prs_nil)))))) rfl rfl rfl rfl rfl rfl rfl rfl rfl rfl rfl (fun _ _ => rfl) rfl (ms_append 43 Tryz.underlying51 t53 rfl (by decide) (fun _ => rfl) (fun _ => rfl) rfl rfl rfl (hs_own (k := 187) rfl) (by simp only [List.length_singleton]; omega) (by unfold maxLen; simp only [List.length_singleton]; omega)) (fun v188 _ => (prs_cons (pri rfl (p_idx_sl (j := fm.body.length) Tryz.underlying51 t53 rfl rfl (hs_own (k := 43) rfl) rfl (by rw [List.length_append, List.length_singleton]; omega))) (prs_cons (pri rfl (p_nilCheck rfl)) (prs_cons (pri rfl (p_field fo63_2 rfl)) prs_nil)))) (fun v188 _ => ?_))
             all_goals first | refine stg_is [7, 6, 5, 4, 3, 2, 1, 0] (stg_altsJ [8, 10, 11] rfl rfl (prs_cons (pri rfl (p_idx_sl (j := fm.body.length) Tryz.underlying51 t53 rfl rfl (hs_own (k := 43) rfl) rfl (by rw [List.length_append, List.length_singleton]; omega))) (prs_cons (pri rfl (p_nilCheck rfl)) (prs_cons (pri rfl (p_field fo63_2 rfl)) prs_nil))) rfl [9, 12] rfl rfl (nx_cons (nx_mem0J 9 [9, 8, 7, 6, 5, 4, 3, 2, 1, 0] [] (fun _ => []) rfl rfl rfl rfl rfl rfl rfl (fun _ _ => rfl) rfl (ms_store_el (k := 43) (e' := s) t53 rfl rfl rfl (by intro _; rfl) (show (fm.body ++ [yZ])[fm.body.length]? = some yZ by rw [List.getElem?_append_right (Nat.le_refl _), Nat.sub_self]; rfl) rfl rfl) (fun _ _ => prs_nil) (fun _ _ => ?_)) (nx_cons (nx_mem0J 12 [12, 11, 10, 7, 6, 5, 4, 3, 2, 1, 0] [] (fun _ => []) rfl rfl rfl rfl rfl rfl rfl (fun _ _ => rfl) rfl (ms_store_own (k := 41) (o := 2) (e' := { fm with vp := pm, vb := v188, body := fm.body ++ [s] }) t51 rfl rfl rfl rfl rfl rfl (by intro _; rfl) hlm (by show _ + 1 ≤ _; decide) rfl) (fun _ _ => prs_nil) (fun _ _ => ?_)) nx_nil)))
             all_goals first | refine stg_is [9, 8, 7, 6, 5, 4, 3, 2, 1, 0] (stg_mem0J [10, 11] 12 [12, 11, 10, 9, 8, 7, 6, 5, 4, 3, 2, 1, 0] [] (fun _ => []) rfl rfl (prs_cons (pri rfl (p_nilCheck rfl)) (prs_cons (pri rfl (p_field fo63_2 rfl)) prs_nil)) rfl rfl rfl rfl rfl rfl rfl rfl rfl (fun _ _ => rfl) rfl (ms_store_own (k := 41) (o := 2) (e' := { fm with vp := pm, vb := v188, body := fm.body ++ [s] }) t51 rfl rfl rfl rfl rfl rfl (by intro _; rfl) hlm (by show _ + 1 ≤ _; decide) rfl) (fun _ _ => prs_nil) (fun _ _ => ?_)) | refine stg_is [12, 11, 10, 7, 6, 5, 4, 3, 2, 1, 0] (stg_mem0J [8] 9 [12, 11, 10, 9, 8, 7, 6, 5, 4, 3, 2, 1, 0] [] (fun _ => []) rfl rfl (prs_cons (pri rfl (p_idx_sl (j := fm.body.length) Tryz.underlying51 t53 rfl rfl (hs_own (k := 43) rfl) rfl (by rw [List.length_append, List.length_singleton]; omega))) prs_nil) rfl rfl rfl rfl rfl rfl rfl rfl rfl (fun _ _ => rfl) rfl (ms_store_el (k := 43) (e' := s) t53 rfl rfl rfl (by intro _; rfl) (show (fm.body ++ [yZ])[fm.body.length]? = some yZ by rw [List.getElem?_append_right (Nat.le_refl _), Nat.sub_self]; rfl) rfl rfl) (fun _ _ => prs_nil) (fun _ _ => ?_))
             all_goals first | refine stg_is [12, 11, 10, 9, 8, 7, 6, 5, 4, 3, 2, 1, 0] (stg_endJ [] rfl rfl prs_nil rfl rfl rfl ?_)
             all_goals
              refine r_collect 50 [0, 40, 41, 42, 43, 62] (C := tf2A vp fs v7 (l.set m { fm with vp := pm, vb := v188, body := fm.body ++ [s] })) rfl (fun w F h => app_all (E := [tyA1 s]) hfm hcp hlen (fun h => by
               obtain ⟨⟨_, a1, b1⟩, _⟩ := h
               exact TyIn.mono b1 (fun _ _ => rfl) _ a1) h) ?_
              refine r_here (l.set m { fm with vp := pm, vb := v188, body := fm.body ++ [s] }) (gpk_set hg0 hcp hlen (gfk_app hgf (ns2) (by omega))) rfl rfl rfl
           ·have z8 : ¬ imod q0 9 = 8 := of_decide_eq_false h11
            refine r_skip ?_
            exfalso
            exact nine (imod_bd (x := q0) (n := 9) (by decide)) z0 z1 z2 z3 z4 z5 z6 z7 z8
  ·refine r_seq (r_region ?_)
   refine r_p (p_loadA t29 rfl rfl rfl (g_all (k := 7) rfl)) rfl ?_
   refine r_store_all (k := 4) t29 rfl rfl rfl rfl rfl rfl ?_
   refine r_nil (r_cret ?_)
   refine r_ret (v7, y) hy rfl (rs1 (rv_cellA t29 rfl rfl rfl (g_all (k := 4) rfl))) rfl [50] [] rfl rfl rfl
theorem Spec.roL {P : Program} {n : Nat} {vs : List Value} {L R0 R1 : List Asn} {X : Type} {φ : X → Prop} {v : X → Value} {L' R' : X → List Asn} (h : Spec P n vs L R0 φ v L' R') (hAB : ∀ (k : Nat) (A : Asn), R0[k]? = some A → ∃ B, R1[k]? = some B ∧ ∀ w G, B.pred w G → A.pred w G) : Spec P n vs L R1 φ v L' R' := fun w M H ⟨F, hF⟩ =>
 h w M H ⟨F, hF.touch, hF.has, hF.lt, hF.mine, hF.apart, fun k C hk => by
  obtain ⟨B, h1, h2⟩ := hAB k C hk
  obtain ⟨G, h3, h4⟩ := hF.ro k B h1
  exact ⟨G, h2 _ _ h3, h4⟩⟩
theorem agrees_own (vp vin : SV) (fs : List Tf) (ins : List Int) (fuel : Int) (hg : GP fs) (hi : ∀ x ∈ ins, oW x) (hil : ins.length ≤ 1000000) (hf : -1000000000000000000 ≤ fuel ∧ fuel ≤ 1000000) :
  Spec Tryz.prog 9 [.agg #[sv vp], sv vin, .int .i64 fuel] [] [tfsA vp fs, own 36 1 eU (sv vin) ins] (X := Unit) (fun _ => True) (fun _ => .bool true) (fun _ => []) (fun _ => []) :=
 (agrees_all vp vin fs ins fuel hg hi hil hf).roL fun k A hk => by
  match k, hk with
  | 0, hk => exact ⟨_, rfl, fun w G h => by cases hk; exact h⟩
  | 1, hk => exact ⟨_, rfl, fun w G h => by cases hk; exact own_sl h⟩
  | k + 2, hk => simp at hk
theorem tf2_1 {vp v : SV} {fs l : List Tf} : ∀ w G, (tf2A vp fs v l).pred w G → (tfsA v l).pred w G := fun w G h => h.2
theorem tf2_a {vp v : SV} {fs l : List Tf} : ∀ w G, (tf2A vp fs v l).pred w G → (∀ b, G b → b < w.heap.size) → ∃ G', (tfsA vp fs).pred w G' ∧ ∀ b, G' b → G b := fun w G h _ => ⟨G, h.1, fun _ hb => hb⟩
theorem tf2_b {vp v : SV} {fs l : List Tf} : ∀ w G, (tf2A vp fs v l).pred w G → (∀ b, G b → b < w.heap.size) → ∃ G', (tfsA v l).pred w G' ∧ ∀ b, G' b → G b := fun w G h _ => ⟨G, h.2, fun _ hb => hb⟩
theorem oW31 : ∀ x ∈ ([3, 1] : List Int), oW x := fun x hx => by
 simp only [List.mem_cons, List.not_mem_nil, or_false] at hx
 rcases hx with rfl | rfl <;> exact ⟨by decide, by decide⟩
set_option maxHeartbeats 16000000 in
set_option maxRecDepth 100000 in
theorem spoilt_law (x0 : SV) (s : List Int) (b0 : ∀ n ∈ s, okI n) (q0 : Int) (o0 : okI q0) (q1 : Int) (o1 : okI q1) (q2 : Int) (o2 : okI q2) (q3 : Int) (o3 : okI q3) (q4 : Int) (o4 : okI q4) (q5 : Int) (o5 : okI q5) (a : Int) (ha : 0 ≤ a ∧ a < 65536) :
  Spec Tryz.prog 4 [sv x0, .agg (([q0, q1, q2, q3, q4, q5].map (Value.int .i64)).toArray), .int .u16 a] [] [sl 1 eI (sv x0) s] (X := Unit) (fun _ => True) (fun _ => .bool true) (fun _ => []) (fun _ => []) := by
 refine r_enter Tryz.func4 rfl Tryz.ntmps4 rfl fun w0 M H => ?_
 refine r_hi 0 22 (min s.length 120) rfl (by omega) ?_
 refine r_seq (r_region ?_)
 refine r_boxA rfl rfl fun b4 => ?_
 refine r_p (p_assign rfl) rfl (r_nil (r_seq (r_region ?_)))
 refine r_callN (xs := []) sanity_spec cb8 [] [] [] rfl rfl rfl rfl rfl rfl rfl rfl (fun _ _ => rfl) (fun _ _ _ => rfl) rfl (fun _ _ => ?_)
 refine r_p (p_assign rfl) rfl (r_nil ?_)
 refine r_seq_cut (X := Nat × SV × List Tf) (fun y => GPk 50100 y.2.2) (fun y => [(2, .int .u16 a), (4, .pointer (some ⟨b4, 0, none⟩)), (7, .bool true), (8, .pointer (some ⟨y.1, 0, none⟩))]) (fun y => [(4, row b4 33 [.int .i64 q0, .int .i64 q1, .int .i64 q2, .int .i64 q3, .int .i64 q4, .int .i64 q5]), (8, row y.1 29 [sv y.2.1]), (50, tfsA y.2.1 y.2.2)]) (fun y => []) ?_ (fun ⟨b8, vp, fs⟩ hp => ?_)
 ·refine r_draw [11, 12, 13, 14, 15, 16, 17, 18, 19, 20, 21, 22, 23, 24, 8] _ rfl (stg_alts (V := [(0, 11, _), (1, 12, _), (2, 13, _), (3, 14, _), (4, 15, _), (6, 17, _), (7, 18, _), (8, 19, _), (9, 20, _), (10, 21, _), (11, 22, _), (12, 23, _)]) [0, 1, 2, 3, 4, 6, 7, 8, 9, 10, 11, 12] rfl rfl (prs_cons (pri rfl (p_move rfl)) (prs_cons (pri rfl (p_move rfl)) (prs_cons (pri rfl (p_len_sl Tryz.underlying22 rfl (hs_sl (k := 0) rfl))) (prs_cons (pri rfl (p_min rfl rfl rfl)) (prs_cons (pri rfl (p_slice_hi (j := (min s.length 120)) Tryz.underlying22 t3 rfl rfl (hs_sl (k := 0) rfl) (by omega) (by omega))) (prs_cons (pri rfl (p_idx_arr1 (j := 0) Tryz.underlying33 t3 rfl rfl (by rfl) (by decide))) (prs_cons (pri rfl (p_load1 t3 rfl rfl (g_row1 (k := 4) rfl rfl))) (prs_cons (pri rfl (p_idx_arr1 (j := 1) Tryz.underlying33 t3 rfl rfl (by rfl) (by decide))) (prs_cons (pri rfl (p_load1 t3 rfl rfl (g_row1 (k := 4) rfl rfl))) (prs_cons (pri rfl (p_idx_arr1 (j := 2) Tryz.underlying33 t3 rfl rfl (by rfl) (by decide))) (prs_cons (pri rfl (p_load1 t3 rfl rfl (g_row1 (k := 4) rfl rfl))) (prs_cons (pri rfl (p_buildA (D := .bool) (parts := [(0, .tmp 18), (1, .tmp 20), (2, .tmp 22)]) t35 t3 rfl rfl)) prs_nil)))))))))))) rfl [5, 14] rfl rfl (nx_cons (nx_mem 5 [5, 4, 3, 2, 1, 0] [] (fun v => []) rfl rfl rfl rfl rfl rfl rfl rfl rfl (fun _ _ => rfl) rfl (ms_callN (xs := [.tmp 15]) (made_spec (hiS x0 (min s.length 120)) (s.take (min s.length 120)) (by rw [List.length_take]; omega) (fun x hx => b0 x (List.mem_of_mem_take hx))) cb10 [] [(false, 22)] [90] rfl rfl rfl rfl rfl rfl rfl rfl (fun _ _ => rfl) (fun _ _ _ => rfl)) (fun v hm => stg_alts [6, 7, 8, 9, 10, 11, 12] rfl rfl (prs_cons (pri rfl (p_idx_arr1 (j := 0) Tryz.underlying33 t3 rfl rfl (by rfl) (by decide))) (prs_cons (pri rfl (p_load1 t3 rfl rfl (g_row1 (k := 4) rfl rfl))) (prs_cons (pri rfl (p_idx_arr1 (j := 1) Tryz.underlying33 t3 rfl rfl (by rfl) (by decide))) (prs_cons (pri rfl (p_load1 t3 rfl rfl (g_row1 (k := 4) rfl rfl))) (prs_cons (pri rfl (p_idx_arr1 (j := 2) Tryz.underlying33 t3 rfl rfl (by rfl) (by decide))) (prs_cons (pri rfl (p_load1 t3 rfl rfl (g_row1 (k := 4) rfl rfl))) (prs_cons (pri rfl (p_buildA (D := .bool) (parts := [(0, .tmp 18), (1, .tmp 20), (2, .tmp 22)]) t35 t3 rfl rfl)) prs_nil))))))) rfl [13, 14] rfl rfl (nx_cons (nx_mem 13 [13, 12, 11, 10, 9, 8, 7, 6, 5, 4, 3, 2, 1, 0] [] (fun v24 => []) rfl rfl rfl rfl rfl rfl rfl rfl rfl (fun _ _ => rfl) rfl (ms_callN (xs := [.tmp 16, .tmp 23]) (turned_spec v.1 v.2 50000 (by omega) (gMr_gpk hm) q0 q1 q2 o0 o1 o2) cb12 [90] [] [51] rfl rfl rfl rfl rfl rfl rfl rfl (fun _ _ => rfl) (fun _ _ _ => rfl)) (fun v24 hv24 => stg_mem [] 14 [14, 13, 12, 11, 10, 9, 8, 7, 6, 5, 4, 3, 2, 1, 0] [] (fun b8 => []) rfl rfl prs_nil rfl rfl rfl rfl rfl rfl rfl rfl rfl rfl rfl (fun _ _ => rfl) rfl (ms_alloc t29 rfl) (fun b8 _ => stg_mem0 [] 15 [15, 14, 13, 12, 11, 10, 9, 8, 7, 6, 5, 4, 3, 2, 1, 0] [] (fun _ => []) rfl rfl prs_nil rfl rfl rfl rfl rfl rfl rfl rfl rfl (fun _ _ => rfl) rfl (ms_store_all (k := 8) t29 rfl rfl rfl rfl rfl rfl) (fun _ _ => stg_end [] rfl rfl prs_nil rfl rfl rfl ?_)))) (nx_cons (nx_mem 14 [14, 5, 4, 3, 2, 1, 0] [] (fun b8 => []) rfl rfl rfl rfl rfl rfl rfl rfl rfl (fun _ _ => rfl) rfl (ms_alloc t29 rfl) (fun b8 _ => stg_mem [6, 7, 8, 9, 10, 11, 12] 13 [14, 13, 12, 11, 10, 9, 8, 7, 6, 5, 4, 3, 2, 1, 0] [] (fun v24 => []) rfl rfl (prs_cons (pri rfl (p_idx_arr1 (j := 0) Tryz.underlying33 t3 rfl rfl (by rfl) (by decide))) (prs_cons (pri rfl (p_load1 t3 rfl rfl (g_row1 (k := 4) rfl rfl))) (prs_cons (pri rfl (p_idx_arr1 (j := 1) Tryz.underlying33 t3 rfl rfl (by rfl) (by decide))) (prs_cons (pri rfl (p_load1 t3 rfl rfl (g_row1 (k := 4) rfl rfl))) (prs_cons (pri rfl (p_idx_arr1 (j := 2) Tryz.underlying33 t3 rfl rfl (by rfl) (by decide))) (prs_cons (pri rfl (p_load1 t3 rfl rfl (g_row1 (k := 4) rfl rfl))) (prs_cons (pri rfl (p_buildA (D := .bool) (parts := [(0, .tmp 18), (1, .tmp 20), (2, .tmp 22)]) t35 t3 rfl rfl)) prs_nil))))))) rfl rfl rfl rfl rfl rfl rfl rfl rfl rfl rfl (fun _ _ => rfl) rfl (ms_callN (xs := [.tmp 16, .tmp 23]) (turned_spec v.1 v.2 50000 (by omega) (gMr_gpk hm) q0 q1 q2 o0 o1 o2) cb12 [90] [] [51] rfl rfl rfl rfl rfl rfl rfl rfl (fun _ _ => rfl) (fun _ _ _ => rfl)) (fun v24 hv24 => stg_mem0 [] 15 [15, 14, 13, 12, 11, 10, 9, 8, 7, 6, 5, 4, 3, 2, 1, 0] [] (fun _ => []) rfl rfl prs_nil rfl rfl rfl rfl rfl rfl rfl rfl rfl (fun _ _ => rfl) rfl (ms_store_all (k := 8) t29 rfl rfl rfl rfl rfl rfl) (fun _ _ => stg_end [] rfl rfl prs_nil rfl rfl rfl ?_)))) nx_nil)))) (nx_cons (nx_mem 14 [14] [] (fun b8 => []) rfl rfl rfl rfl rfl rfl rfl rfl rfl (fun _ _ => rfl) rfl (ms_alloc t29 rfl) (fun b8 _ => stg_mem [0, 1, 2, 3, 4, 6, 7, 8, 9, 10, 11, 12] 5 [14, 5, 4, 3, 2, 1, 0] [] (fun v => []) rfl rfl (prs_cons (pri rfl (p_move rfl)) (prs_cons (pri rfl (p_move rfl)) (prs_cons (pri rfl (p_len_sl Tryz.underlying22 rfl (hs_sl (k := 0) rfl))) (prs_cons (pri rfl (p_min rfl rfl rfl)) (prs_cons (pri rfl (p_slice_hi (j := (min s.length 120)) Tryz.underlying22 t3 rfl rfl (hs_sl (k := 0) rfl) (by omega) (by omega))) (prs_cons (pri rfl (p_idx_arr1 (j := 0) Tryz.underlying33 t3 rfl rfl (by rfl) (by decide))) (prs_cons (pri rfl (p_load1 t3 rfl rfl (g_row1 (k := 4) rfl rfl))) (prs_cons (pri rfl (p_idx_arr1 (j := 1) Tryz.underlying33 t3 rfl rfl (by rfl) (by decide))) (prs_cons (pri rfl (p_load1 t3 rfl rfl (g_row1 (k := 4) rfl rfl))) (prs_cons (pri rfl (p_idx_arr1 (j := 2) Tryz.underlying33 t3 rfl rfl (by rfl) (by decide))) (prs_cons (pri rfl (p_load1 t3 rfl rfl (g_row1 (k := 4) rfl rfl))) (prs_cons (pri rfl (p_buildA (D := .bool) (parts := [(0, .tmp 18), (1, .tmp 20), (2, .tmp 22)]) t35 t3 rfl rfl)) prs_nil)))))))))))) rfl rfl rfl rfl rfl rfl rfl rfl rfl rfl rfl (fun _ _ => rfl) rfl (ms_callN (xs := [.tmp 15]) (made_spec (hiS x0 (min s.length 120)) (s.take (min s.length 120)) (by rw [List.length_take]; omega) (fun x hx => b0 x (List.mem_of_mem_take hx))) cb10 [] [(false, 22)] [90] rfl rfl rfl rfl rfl rfl rfl rfl (fun _ _ => rfl) (fun _ _ _ => rfl)) (fun v hm => stg_mem [6, 7, 8, 9, 10, 11, 12] 13 [14, 13, 12, 11, 10, 9, 8, 7, 6, 5, 4, 3, 2, 1, 0] [] (fun v24 => []) rfl rfl (prs_cons (pri rfl (p_idx_arr1 (j := 0) Tryz.underlying33 t3 rfl rfl (by rfl) (by decide))) (prs_cons (pri rfl (p_load1 t3 rfl rfl (g_row1 (k := 4) rfl rfl))) (prs_cons (pri rfl (p_idx_arr1 (j := 1) Tryz.underlying33 t3 rfl rfl (by rfl) (by decide))) (prs_cons (pri rfl (p_load1 t3 rfl rfl (g_row1 (k := 4) rfl rfl))) (prs_cons (pri rfl (p_idx_arr1 (j := 2) Tryz.underlying33 t3 rfl rfl (by rfl) (by decide))) (prs_cons (pri rfl (p_load1 t3 rfl rfl (g_row1 (k := 4) rfl rfl))) (prs_cons (pri rfl (p_buildA (D := .bool) (parts := [(0, .tmp 18), (1, .tmp 20), (2, .tmp 22)]) t35 t3 rfl rfl)) prs_nil))))))) rfl rfl rfl rfl rfl rfl rfl rfl rfl rfl rfl (fun _ _ => rfl) rfl (ms_callN (xs := [.tmp 16, .tmp 23]) (turned_spec v.1 v.2 50000 (by omega) (gMr_gpk hm) q0 q1 q2 o0 o1 o2) cb12 [90] [] [51] rfl rfl rfl rfl rfl rfl rfl rfl (fun _ _ => rfl) (fun _ _ _ => rfl)) (fun v24 hv24 => stg_mem0 [] 15 [15, 14, 13, 12, 11, 10, 9, 8, 7, 6, 5, 4, 3, 2, 1, 0] [] (fun _ => []) rfl rfl prs_nil rfl rfl rfl rfl rfl rfl rfl rfl rfl (fun _ _ => rfl) rfl (ms_store_all (k := 8) t29 rfl rfl rfl rfl rfl rfl) (fun _ _ => stg_end [] rfl rfl prs_nil rfl rfl rfl ?_))))) nx_nil)))
  ·refine r_collect 50 [51] (L := [tf2A v.1 v.2 v24.1 v24.2]) (C := tfsA v24.1 v24.2) rfl (fun w F h => by
    obtain ⟨⟨_, a, b⟩, _⟩ := h
    exact tfs_mono a.2 b) ?_
   refine r_here (b8, v24.1, v24.2) hv24 rfl rfl rfl
  ·refine r_collect 50 [51] (L := [tf2A v.1 v.2 v24.1 v24.2]) (C := tfsA v24.1 v24.2) rfl (fun w F h => by
    obtain ⟨⟨_, a, b⟩, _⟩ := h
    exact tfs_mono a.2 b) ?_
   refine r_here (b8, v24.1, v24.2) hv24 rfl rfl rfl
  ·refine r_collect 50 [51] (L := [tf2A v.1 v.2 v24.1 v24.2]) (C := tfsA v24.1 v24.2) rfl (fun w F h => by
    obtain ⟨⟨_, a, b⟩, _⟩ := h
    exact tfs_mono a.2 b) ?_
   refine r_here (b8, v24.1, v24.2) hv24 rfl rfl rfl
 ·dsimp only at hp ⊢
  refine r_seq (r_region ?_)
  refine r_p (p_loadA t29 rfl rfl rfl (g_all (k := 8) rfl)) rfl ?_
  refine r_p (p_idx_arr1 (j := 3) Tryz.underlying33 t3 rfl rfl (by rfl) (by decide)) rfl ?_
  refine r_p (p_load1 t3 rfl rfl (g_row1 (k := 4) rfl rfl)) rfl ?_
  refine r_p (p_idx_arr1 (j := 4) Tryz.underlying33 t3 rfl rfl (by rfl) (by decide)) rfl ?_
  refine r_p (p_load1 t3 rfl rfl (g_row1 (k := 4) rfl rfl)) rfl ?_
  refine r_p (p_idx_arr1 (j := 5) Tryz.underlying33 t3 rfl rfl (by rfl) (by decide)) rfl ?_
  refine r_p (p_load1 t3 rfl rfl (g_row1 (k := 4) rfl rfl)) rfl ?_
  refine r_p (p_buildA (D := .bool) (parts := [(0, .tmp 27), (1, .tmp 29), (2, .tmp 31)]) t35 t3 rfl rfl) rfl ?_
  refine r_callN (xs := [.tmp 25, .tmp 32]) (turned_spec vp fs 50100 (by omega) hp q3 q4 q5 o3 o4 o5) cb12 [50] [] [52] rfl rfl rfl rfl rfl rfl rfl rfl (fun _ _ => rfl) (fun _ _ _ => rfl) rfl (fun ⟨vq, gs⟩ hq => ?_)
  dsimp only at hq ⊢
  refine r_freeze 52 60 rfl (fun _ _ h => h) ?_
  refine r_more 60 61 rfl tf2_a ?_
  refine r_more 60 62 rfl tf2_b ?_
  refine r_alloc t29 rfl rfl fun b9 => ?_
  refine r_store_all (k := 9) t29 rfl rfl rfl rfl rfl rfl ?_
  refine r_nil (r_seq ?_)
  refine r_draw [34, 35, 36, 37, 38, 39, 40, 41, 42, 43, 44, 45, 46, 47, 48, 6] _ rfl (stg_altsJ (V := [(0, 34, _), (1, 35, _), (2, 36, _), (4, 38, _)]) [0, 1, 2, 4] rfl rfl (prs_cons (pri rfl (p_move rfl)) (prs_cons (pri rfl (p_move rfl)) (prs_cons (prig_y rfl rfl rfl rfl (p_loadA t29 rfl rfl rfl (g_all (k := 8) rfl))) (prs_cons (prig_y rfl rfl rfl rfl (p_move rfl)) prs_nil)))) rfl [3, 5] rfl rfl (nx_cons (nx_memgJ 3 [3, 1, 0] [] (fun v37 => []) rfl rfl rfl rfl rfl rfl rfl rfl rfl rfl (fun _ _ => rfl) rfl (ms_bslice eU [(3 : Int), 1] (parts := [(0, .const (.int .u32 3)), (1, .const (.int .u32 1))]) Tryz.underlying23 t36 rfl (by decide) (by intro _; rfl) rfl (by decide) (by decide) rfl rfl rfl) (fun v37 _ => prs_nil) (fun v37 _ => ?_)) (nx_cons (nx_memgJ 5 [5, 4, 1, 0] [] (fun _ => []) rfl rfl rfl rfl rfl rfl rfl rfl rfl rfl (fun _ _ => rfl) rfl (ms_callN (xs := [.tmp 38]) (units_spec a ha) cb11 [] [] [] rfl rfl rfl rfl rfl rfl rfl rfl (fun _ _ => rfl) (fun _ _ _ => rfl)) (fun _ _ => prs_nil) (fun _ _ => ?_)) nx_nil)))
  all_goals first | refine stg_memgJ [2, 4] 5 [5, 4, 3, 1, 0] [] (fun _ => []) rfl rfl (prs_cons (prig_y rfl rfl rfl rfl (p_loadA t29 rfl rfl rfl (g_all (k := 8) rfl))) (prs_cons (prig_y rfl rfl rfl rfl (p_move rfl)) prs_nil)) rfl rfl rfl rfl rfl rfl rfl rfl rfl rfl rfl rfl (fun _ _ => rfl) rfl (ms_callN (xs := [.tmp 38]) (units_spec a ha) cb11 [] [] [] rfl rfl rfl rfl rfl rfl rfl rfl (fun _ _ => rfl) (fun _ _ _ => rfl)) (fun _ _ => prs_nil) (fun _ _ => ?_) | refine stg_memgJ [2] 3 [5, 4, 3, 1, 0] [] (fun v37 => []) rfl rfl (prs_cons (prig_y rfl rfl rfl rfl (p_loadA t29 rfl rfl rfl (g_all (k := 8) rfl))) prs_nil) rfl rfl rfl rfl rfl rfl rfl rfl rfl rfl rfl rfl (fun _ _ => rfl) rfl (ms_bslice eU [(3 : Int), 1] (parts := [(0, .const (.int .u32 3)), (1, .const (.int .u32 1))]) Tryz.underlying23 t36 rfl (by decide) (by intro _; rfl) rfl (by decide) (by decide) rfl rfl rfl) (fun v37 _ => prs_nil) (fun v37 _ => ?_)
  all_goals first | refine stg_memgJ [2] 6 [6, 5, 4, 3, 2, 1, 0] [7, 8, 9, 11] (fun _ => [(7, 41, _), (8, 42, _), (9, 43, _), (11, 45, _)]) rfl rfl (prs_cons (prig_y rfl rfl rfl rfl (p_loadA t29 rfl rfl rfl (g_all (k := 8) rfl))) prs_nil) rfl rfl rfl rfl rfl rfl rfl rfl rfl rfl rfl rfl (fun _ _ => rfl) rfl (ms_callN (xs := [.tmp 36, .tmp 37, .tmp 39]) (agrees_own vp v37 fs [3, 1] (a % 4004 - 3) (GPk.gp (by omega) hp) oW31 (by show 2 ≤ 1000000; decide) (by omega)) cb9 [] [(false, 61), (true, 37)] [] rfl rfl rfl rfl rfl rfl rfl rfl (fun _ _ => rfl) (fun _ _ _ => rfl)) (fun _ _ => (prs_cons (pri rfl (p_pick rfl rfl rfl (pick_t rfl))) (prs_cons (pri rfl (p_move rfl)) (prs_cons (prig_y rfl rfl rfl rfl (p_loadA t29 rfl rfl rfl (g_all (k := 9) rfl))) (prs_cons (prig_y rfl rfl rfl rfl (p_move rfl)) prs_nil))))) (fun _ _ => ?_)
  all_goals first | refine stg_altsJ [7, 8, 9, 11] rfl rfl (prs_cons (pri rfl (p_pick rfl rfl rfl (pick_t rfl))) (prs_cons (pri rfl (p_move rfl)) (prs_cons (prig_y rfl rfl rfl rfl (p_loadA t29 rfl rfl rfl (g_all (k := 9) rfl))) (prs_cons (prig_y rfl rfl rfl rfl (p_move rfl)) prs_nil)))) rfl [10, 12] rfl rfl (nx_cons (nx_memgJ 10 [10, 8, 7, 6, 5, 4, 3, 2, 1, 0] [] (fun v44 => []) rfl rfl rfl rfl rfl rfl rfl rfl rfl rfl (fun _ _ => rfl) rfl (ms_bslice eU [(3 : Int), 1] (parts := [(0, .const (.int .u32 3)), (1, .const (.int .u32 1))]) Tryz.underlying23 t36 rfl (by decide) (by intro _; rfl) rfl (by decide) (by decide) rfl rfl rfl) (fun v44 _ => prs_nil) (fun v44 _ => ?_)) (nx_cons (nx_memgJ 12 [12, 11, 8, 7, 6, 5, 4, 3, 2, 1, 0] [] (fun _ => []) rfl rfl rfl rfl rfl rfl rfl rfl rfl rfl (fun _ _ => rfl) rfl (ms_callN (xs := [.tmp 45]) (units_spec a ha) cb11 [] [] [] rfl rfl rfl rfl rfl rfl rfl rfl (fun _ _ => rfl) (fun _ _ _ => rfl)) (fun _ _ => prs_nil) (fun _ _ => ?_)) nx_nil))
  all_goals first | refine stg_memgJ [9, 11] 12 [12, 11, 10, 8, 7, 6, 5, 4, 3, 2, 1, 0] [] (fun _ => []) rfl rfl (prs_cons (prig_y rfl rfl rfl rfl (p_loadA t29 rfl rfl rfl (g_all (k := 9) rfl))) (prs_cons (prig_y rfl rfl rfl rfl (p_move rfl)) prs_nil)) rfl rfl rfl rfl rfl rfl rfl rfl rfl rfl rfl rfl (fun _ _ => rfl) rfl (ms_callN (xs := [.tmp 45]) (units_spec a ha) cb11 [] [] [] rfl rfl rfl rfl rfl rfl rfl rfl (fun _ _ => rfl) (fun _ _ _ => rfl)) (fun _ _ => prs_nil) (fun _ _ => ?_) | refine stg_memgJ [9] 10 [12, 11, 10, 8, 7, 6, 5, 4, 3, 2, 1, 0] [] (fun v44 => []) rfl rfl (prs_cons (prig_y rfl rfl rfl rfl (p_loadA t29 rfl rfl rfl (g_all (k := 9) rfl))) prs_nil) rfl rfl rfl rfl rfl rfl rfl rfl rfl rfl rfl rfl (fun _ _ => rfl) rfl (ms_bslice eU [(3 : Int), 1] (parts := [(0, .const (.int .u32 3)), (1, .const (.int .u32 1))]) Tryz.underlying23 t36 rfl (by decide) (by intro _; rfl) rfl (by decide) (by decide) rfl rfl rfl) (fun v44 _ => prs_nil) (fun v44 _ => ?_)
  all_goals first | refine stg_memgJ [9] 13 [13, 12, 11, 10, 9, 8, 7, 6, 5, 4, 3, 2, 1, 0] [14, 15] (fun _ => [(14, 48, _), (15, 6, _)]) rfl rfl (prs_cons (prig_y rfl rfl rfl rfl (p_loadA t29 rfl rfl rfl (g_all (k := 9) rfl))) prs_nil) rfl rfl rfl rfl rfl rfl rfl rfl rfl rfl rfl rfl (fun _ _ => rfl) rfl (ms_callN (xs := [.tmp 43, .tmp 44, .tmp 46]) (agrees_own vq v44 gs [3, 1] (a % 4004 - 3) (GPk.gp (by omega) hq) oW31 (by show 2 ≤ 1000000; decide) (by omega)) cb9 [] [(false, 62), (true, 44)] [] rfl rfl rfl rfl rfl rfl rfl rfl (fun _ _ => rfl) (fun _ _ _ => rfl)) (fun _ _ => (prs_cons (pri rfl (p_pick rfl rfl rfl (pick_t rfl))) (prs_cons (pri rfl (p_assign rfl)) prs_nil))) (fun _ _ => ?_)
  all_goals first | refine stg_endJ [14, 15] rfl rfl (prs_cons (pri rfl (p_pick rfl rfl rfl (pick_t rfl))) (prs_cons (pri rfl (p_assign rfl)) prs_nil)) rfl rfl rfl ?_
  all_goals
   refine r_cret ?_
   refine r_ret () trivial rfl (rs1 (rv_tmp rfl)) rfl [] [] rfl rfl rfl
end Go.Proofs.YtdcbbkpdlcojfaaGreat
