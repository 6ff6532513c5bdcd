/-
  The walk of DiskPlays. Condition: the numbers are of their types.
-/
import Derived.Test.YtohenjmkhncoiaaP7
import Derived.Test.YtohenjmkhncoiaaOG
namespace Go.Proofs.Ytohenjmkhncoiaa
set_option linter.unusedSimpArgs false
set_option linter.unusedVariables false
open Go.RowKit

set_option maxRecDepth 100000 in
theorem syncT_spec (D : Nat) (v : SV) (m : Nat) (armed : Bool) (left : Int) (dur : List ByteArray) (fr : List (Int × ByteArray)) :
    Spec Try.prog 21 [.pointer (some ⟨D, 0, none⟩)] [row D 94 (dC v (some m) true armed left), mp mkI Prod.fst vS (some m) fr, own 9 1 eS (sv v) dur] [] (X := List (Int × ByteArray) × DR) (fun x => x.1.Perm fr ∧ x.2 = dstep true armed left dur fr none x.1) (fun x => .int .i64 x.2.e) (fun x => [row D 94 (dC v (some m) x.2.off armed x.2.left), mp mkI Prod.fst vS (some m) x.2.fr, own 9 1 eS (sv v) x.2.dur]) (fun _ => []) := by
  refine r_enter Try.func21 rfl Try.ntmps21 rfl fun w0 M H => ?_
  refine r_seq ?_
  refine r_region ?_
  refine r_p (p_assign rfl) rfl ?_
  refine r_nil ?_
  refine r_seq ?_
  refine r_seq ?_
  refine r_region ?_
  refine r_p (p_move rfl) rfl ?_
  refine r_p (p_bin rfl rfl (b_eqPn Try.underlying24)) rfl ?_
  refine r_p (p_move rfl) rfl ?_
  refine r_split (t := 7) rfl (fun h1 => False.elim (by simp at h1)) (fun h1 => ?_)
  refine r_gyes rfl rfl ?_
  refine r_p (p_move rfl) rfl ?_
  refine r_gyes rfl rfl ?_
  refine r_p (p_nilCheck rfl) rfl ?_
  refine r_gyes rfl rfl ?_
  refine r_p (p_field0 fo94_2 rfl) rfl ?_
  refine r_gyes rfl rfl ?_
  refine r_p (p_load1 t4 rfl rfl (g_row1 (k := 0) rfl rfl)) rfl ?_
  refine r_p (p_pick rfl rfl rfl (by first | exact pick_and | exact pick_or |  rfl)) rfl ?_
  refine r_p (p_move rfl) rfl ?_
  refine r_split (t := 13) rfl (fun h2 => ?_) (fun h2 => False.elim (by simp at h2))
  refine r_gno rfl rfl rfl rfl ?_
  refine r_gno rfl rfl rfl rfl ?_
  refine r_gno rfl rfl rfl rfl ?_
  refine r_p (p_pick rfl rfl rfl (by first | exact pick_and | exact pick_or |  rfl)) rfl ?_
  refine r_nil ?_
  refine r_cond rfl (fun h3 => ?_) (fun h3 => ?_)
  · (try simp only [decide_eq_true_eq, decide_eq_false_iff_not, Bool.and_eq_true, Bool.or_eq_true, Bool.and_eq_false_iff, Bool.or_eq_false_iff, Bool.not_eq_true, Bool.not_eq_false, Bool.not_eq_true', Bool.not_eq_false', Bool.not_not, bne_iff_ne, beq_iff_eq] at h3)
    refine r_seq ?_
    refine r_region ?_
    refine r_p (p_assign rfl) rfl ?_
    refine r_nil ?_
    refine r_cret ?_
    refine r_ret (fr, dstep true armed left dur fr none fr) ⟨List.Perm.refl _, rfl⟩ rfl (rs1 (rv_tmp rfl)) rfl [0, 1, 2] [] rfl rfl rfl
  · exact absurd h3 (by simp)
set_option maxRecDepth 100000 in
theorem sync_spec (D : Nat) (v : SV) (m : Nat) (off armed : Bool) (left : Int) (dur : List ByteArray) (fr : List (Int × ByteArray)) (hb : ∀ p ∈ fr, 0 ≤ p.1 ∧ p.1 < dur.length) :
    Spec Try.prog 21 [.pointer (some ⟨D, 0, none⟩)] [row D 94 (dC v (some m) off armed left), mp mkI Prod.fst vS (some m) fr, own 9 1 eS (sv v) dur] [] (X := List (Int × ByteArray) × DR) (fun x => x.1.Perm fr ∧ x.2 = dstep off armed left dur fr none x.1) (fun x => .int .i64 x.2.e) (fun x => [row D 94 (dC v (some m) x.2.off armed x.2.left), mp mkI Prod.fst vS (some m) x.2.fr, own 9 1 eS (sv v) x.2.dur]) (fun _ => []) := by
  cases off with
  | true =>
    intro w M H hL
    obtain ⟨F, hF⟩ := hL
    have hro : LOk w M H [row D 94 (dC v (some m) true armed left), mp mkI Prod.fst vS (some m) fr, own 9 1 eS (sv v) dur] [] w := ⟨F, hF⟩
    exact syncT_spec D v m armed left dur fr w M H hro
  | false =>
    refine (sync_on D v m armed left dur fr hb).mono fun l hl => ⟨(l, dstep false armed left dur fr none l), ⟨hl, rfl⟩, ?_, ?_, rfl⟩
    · rw [dstep_sync]; cases pwO false armed left <;> rfl
    · rw [dstep_sync]; cases pwO false armed left <;> rfl
set_option maxRecDepth 100000 in
theorem write_spec' (D : Nat) (v : SV) (m : Nat) (off armed : Bool) (left : Int) (dur : List ByteArray) (fr : List (Int × ByteArray)) (n : Int) (s : ByteArray) :
    Spec Try.prog 19 [.pointer (some ⟨D, 0, none⟩), .int .i64 n, .string s] [row D 94 (dC v (some m) off armed left), mp mkI Prod.fst vS (some m) fr] [own 9 1 eS (sv v) dur] (X := DR) (fun d => d = dstep off armed left dur fr (some (n, s)) []) (fun d => .int .i64 d.e) (fun d => [row D 94 (dC v (some m) d.off armed d.left), mp mkI Prod.fst vS (some m) d.fr]) (fun _ => []) :=
  (write_spec D v m off armed left dur fr n s).mono fun _ _ => ⟨dstep off armed left dur fr (some (n, s)) [], rfl, rfl, rfl, rfl⟩

set_option maxHeartbeats 4000000 in
set_option maxRecDepth 100000 in
theorem plays_law (n : Int) (hn : -9223372036854775808 ≤ n ∧ n < 9223372036854775808) (xv : SV) (ops : List Opn) (hops : ∀ x ∈ ops, (0 ≤ x.what ∧ x.what < 256) ∧ okI x.n) :
    Spec Try.prog 3 [.int .i64 n, sv xv] [] [sl 4 eOpn (sv xv) ops, qlsA (ops.map Opn.q)] (X := Unit) (fun _ => True) (fun _ => .bool true) (fun _ => []) (fun _ => []) := by
  refine r_enter Try.func3 rfl Try.ntmps3 rfl fun w0 M H => ?_
  refine r_seq ?_
  refine r_region ?_
  refine r_p (p_assign rfl) rfl ?_
  refine r_nil ?_
  refine r_seq ?_
  refine r_region ?_
  refine r_call (xs := []) sanity_spec cb15 [] [] [] [] rfl rfl rfl rfl rfl rfl rfl rfl (fun _ _ => rfl) (fun _ _ _ => rfl) rfl (fun _ _ => ?_)
  refine r_p (p_assign rfl) rfl ?_
  refine r_nil ?_
  refine r_seq ?_
  refine r_region ?_
  refine r_p (p_move rfl) rfl ?_
  refine r_p (p_min rfl rfl rfl) rfl ?_
  refine r_p (p_assign rfl) rfl ?_
  refine r_nil ?_
  refine r_seq ?_
  refine r_region ?_
  refine r_p (p_move rfl) rfl ?_
  refine r_call (xs := [.tmp 24]) (newdisk_spec (min n 12)) cb16 [] [] [160, 161, 162] [] rfl rfl rfl rfl rfl rfl rfl rfl (fun _ _ => rfl) (fun _ _ _ => rfl) rfl (fun d3 _ => ?_)
  obtain ⟨D, v, m⟩ := d3
  dsimp only
  obtain ⟨S, hS⟩ : ∃ S : Nat, (max 0 (min (min n 12) 65536)).toNat = S := ⟨_, rfl⟩
  have hS12 : S ≤ 12 := by omega
  rw [hS]
  refine r_p (p_assign rfl) rfl ?_
  refine r_nil ?_
  refine r_seq ?_
  refine r_region ?_
  refine r_p (p_move rfl) rfl ?_
  refine r_call (xs := [.tmp 26]) (rnew_spec (min n 12)) cb17 [] [] [165, 166, 167, 168] [] rfl rfl rfl rfl rfl rfl rfl rfl (fun _ _ => rfl) (fun _ _ _ => rfl) rfl (fun r4 _ => ?_)
  obtain ⟨r, vo, vn, vh⟩ := r4
  dsimp only
  rw [hS]
  refine r_p (p_assign rfl) rfl ?_
  refine r_nil ?_
  refine r_seq ?_
  refine r_seq ?_
  refine r_region ?_
  refine r_p (p_assign rfl) rfl ?_
  refine r_nil ?_
  refine r_block ?_
  refine r_loop (X := Nat × Pl) (fun y => y.1 ≤ 40 ∧ DM S y.2) (fun y => [(1, sv xv), (5, .bool true), (7, .pointer (some ⟨D, 0, none⟩)), (8, .pointer (some ⟨r, 0, none⟩)), (9, .int .i64 (y.1 : Int))]) (fun y => [(160, row D 94 (dC v (some m) y.2.off y.2.armed y.2.left)), (161, mp mkI Prod.fst vS (some m) y.2.fr), (162, own 9 1 eS (sv v) y.2.dur), (165, row r 44 (rC vo vn vh y.2.off y.2.rleft)), (166, own 9 1 eS (sv vo) y.2.dur), (167, own 9 1 eS (sv vn) y.2.new), (168, own 4 1 eB (sv vh) y.2.has)]) (fun y => [(0, sl 4 eOpn (sv xv) ops), (1, qlsA (ops.map Opn.q))]) (fun y => 40 - y.1) (0, ⟨false, false, 0, List.replicate S zsec, [], -1, List.replicate S ByteArray.empty, List.replicate S false⟩) ⟨Nat.zero_le _, DM.init S⟩ rfl rfl rfl (fun y hy0 => ?_)
  obtain ⟨k, z⟩ := y
  obtain ⟨hk0, hz⟩ := hy0
  dsimp only at hk0 hz ⊢
  have h1_ : z.new.length = z.dur.length := by rw [hz.new, hz.dur]
  have h2_ : z.has.length = z.dur.length := by rw [hz.has, hz.dur]
  have hdl : z.dur.length ≤ 65536 := by rw [hz.dur]; omega
  refine r_seq ?_
  refine r_seq ?_
  refine r_region ?_
  refine r_p (p_move rfl) rfl ?_
  refine r_p (p_move rfl) rfl ?_
  refine r_p (p_len_sl Try.underlying22 rfl (hs_sl (k := 0) rfl)) rfl ?_
  refine r_p (p_bin rfl rfl b_lt) rfl ?_
  refine r_p (p_move rfl) rfl ?_
  refine r_gp [] rfl rfl trivial (fun hg1 => p_move rfl) rfl ?_
  refine r_gp [(33, _)] rfl rfl ⟨rfl, trivial⟩ (fun hg2 => p_bin rfl rfl b_lt) rfl ?_
  refine r_p (p_pick rfl rfl rfl (by first | exact pick_and | exact pick_or |  rfl)) rfl ?_
  refine r_nil ?_
  refine r_cond rfl (fun h3 => ?_) (fun h3 => ?_)
  · (try simp only [decide_eq_true_eq, decide_eq_false_iff_not, Bool.and_eq_true, Bool.or_eq_true, Bool.and_eq_false_iff, Bool.or_eq_false_iff, Bool.not_eq_true, Bool.not_eq_false, Bool.not_eq_true', Bool.not_eq_false', Bool.not_not, bne_iff_ne, beq_iff_eq] at h3)
    have hk : k < ops.length ∧ k < 40 := by omega
    obtain ⟨o, ho⟩ : ∃ o, ops[k]? = some o := ⟨_, List.getElem?_eq_getElem hk.1⟩
    obtain ⟨hb1, hb2⟩ := hops o (List.mem_of_getElem? ho)
    have hb2 : -9223372036854775808 ≤ o.n ∧ o.n < 9223372036854775808 := hb2
    refine r_skip ?_
    refine r_seq ?_
    refine r_block ?_
    refine r_seq ?_
    refine r_region ?_
    refine r_p (p_move rfl) rfl ?_
    refine r_p (p_move rfl) rfl ?_
    refine r_p (p_idx_sl (j := k) Try.underlying22 t30 rfl rfl (hs_sl (k := 0) rfl) (by first | rfl | omega) (by first | omega | (simp; done) | (simp; omega))) rfl ?_
    refine r_p (p_loadA t30 rfl rfl rfl (g_el' (hs_sl (k := 0) rfl) (by intro _; rfl) ho (by rfl))) rfl ?_
    refine r_alloc t30 rfl rfl fun b10 => ?_
    refine r_store_all (k := 10) t30 rfl rfl rfl rfl rfl rfl ?_
    refine r_nil ?_
    refine r_seq ?_
    refine r_region ?_
    refine r_p (p_field0 fo30_2 rfl) rfl ?_
    refine r_p (p_load1 t9 rfl rfl (g_row1 (k := 10) rfl rfl)) rfl ?_
    refine r_p (p_field0 fo30_2 rfl) rfl ?_
    refine r_p (p_load1 t9 rfl rfl (g_row1 (k := 10) rfl rfl)) rfl ?_
    refine r_p (p_len_str Try.underlying9 rfl) rfl ?_
    refine r_p (p_min rfl rfl rfl) rfl ?_
    refine r_p (p_slice_strhi Try.underlying9 rfl rfl (by omega) (by omega)) rfl ?_
    refine r_p (p_assign rfl) rfl ?_
    obtain ⟨t, ht⟩ : ∃ t, o.s.extract 0 (min (o.s.size : Int) 70).toNat = t := ⟨_, rfl⟩
    rw [ht]
    refine r_nil ?_
    refine r_seq ?_
    refine r_region ?_
    refine r_p (p_field0 fo30_0 rfl) rfl ?_
    refine r_p (p_load1 t5 rfl rfl (g_row1 (k := 10) rfl rfl)) rfl ?_
    refine r_p (p_bin rfl rfl (b_rem (by omega) (by first | exact tmod_pos (by omega) | rfl))) rfl ?_
    refine r_nil ?_
    refine r_block ?_
    refine r_seq ?_
    refine r_seq ?_
    refine r_region ?_
    refine r_p (p_bin rfl rfl b_eq) rfl ?_
    refine r_p (p_assign rfl) rfl ?_
    refine r_nil ?_
    refine r_cond rfl (fun h4 => ?_) (fun h4 => ?_)
    · have hc4 := h4
      refine r_skip ?_
      refine r_cond rfl (fun h5 => ?_) (fun h5 => ?_)
      · (try simp only [decide_eq_true_eq, decide_eq_false_iff_not, Bool.and_eq_true, Bool.or_eq_true, Bool.and_eq_false_iff, Bool.or_eq_false_iff, Bool.not_eq_true, Bool.not_eq_false, Bool.not_eq_true', Bool.not_eq_false', Bool.not_not, bne_iff_ne, beq_iff_eq] at h5)
        refine r_seq ?_
        refine r_seq ?_
        refine r_region ?_
        refine r_p (p_field0 fo30_0 rfl) rfl ?_
        refine r_p (p_load1 t5 rfl rfl (g_row1 (k := 10) rfl rfl)) rfl ?_
        refine r_p (p_bin rfl rfl (b_rem (by omega) (by first | exact tmod_pos (by omega) | rfl))) rfl ?_
        refine r_p (p_bin rfl rfl b_eq) rfl ?_
        refine r_nil ?_
        refine r_cond rfl (fun h6 => ?_) (fun h6 => ?_)
        · refine r_region ?_
          refine r_p (p_field0 fo30_1 rfl) rfl ?_
          refine r_p (p_load1 t3 rfl rfl (g_row1 (k := 10) rfl rfl)) rfl ?_
          refine r_p (p_conv Try.underlying3 Try.underlying32 rfl (by first | exact w_u32 (by omega) (by omega) | rfl)) rfl ?_
          refine r_call (xs := [.tmp 83, .const (.int .i64 64)]) (fill_spec (IntKind.u32.wrap o.n) 64 (by decide) (by decide)) cb18 [] [] [] [] rfl rfl rfl rfl rfl rfl rfl rfl (fun _ _ => rfl) (fun _ _ _ => rfl) rfl (fun _ _ => ?_)
          refine r_p (p_assign rfl) rfl ?_
          refine r_nil ?_
          refine r_seq ?_
          refine r_draw [85, 86, 87, 88, 89, 90, 91, 92, 93, 94, 95] _ rfl (stg_mem (V := [(0, 85, _), (1, 86, _), (2, 87, _), (3, 88, _), (5, 90, _), (6, 91, _), (7, 92, _), (8, 93, _)]) [0, 1, 2, 3, 5, 6, 7, 8] 4 [4, 3, 2, 1, 0] [] (fun _ => []) rfl rfl (prs_cons (pri rfl (p_move rfl)) (prs_cons (pri rfl (p_field0 fo30_1 rfl)) (prs_cons (pri rfl (p_load1 t3 rfl rfl (g_row1 (k := 10) rfl rfl))) (prs_cons (pri rfl (p_move rfl)) (prs_cons (pri rfl (p_move rfl)) (prs_cons (pri rfl (p_field0 fo30_1 rfl)) (prs_cons (pri rfl (p_load1 t3 rfl rfl (g_row1 (k := 10) rfl rfl))) (prs_cons (pri rfl (p_move rfl)) prs_nil)))))))) rfl rfl rfl rfl rfl rfl rfl rfl rfl rfl rfl (fun _ _ => rfl) rfl (ms_call (xs := [.tmp 85, .tmp 87, .tmp 88]) (write_spec D v m z.off z.armed z.left z.dur z.fr o.n (fillS (IntKind.u32.wrap o.n) (64 : Int).toNat)) cb19 [160, 161] [(true, 162)] [160, 161] [] rfl rfl rfl rfl rfl rfl rfl rfl (fun _ _ => rfl) (fun _ _ _ => rfl)) (fun _ _ => stg_mem [5, 6, 7, 8] 9 [9, 8, 7, 6, 5, 4, 3, 2, 1, 0] [10] (fun _ => [(10, 95, _)]) rfl rfl (prs_cons (pri rfl (p_move rfl)) (prs_cons (pri rfl (p_field0 fo30_1 rfl)) (prs_cons (pri rfl (p_load1 t3 rfl rfl (g_row1 (k := 10) rfl rfl))) (prs_cons (pri rfl (p_move rfl)) prs_nil)))) rfl rfl rfl rfl rfl rfl rfl rfl rfl rfl rfl (fun _ _ => rfl) rfl (ms_call (xs := [.tmp 90, .tmp 92, .tmp 93]) (rwrite_spec r vo vn vh z.off z.rleft z.dur z.new z.has o.n (fillS (IntKind.u32.wrap o.n) (64 : Int).toNat) h1_ h2_ hz.rl) cb20 [165, 167, 168] [(true, 166)] [165, 167, 168] [] rfl rfl rfl rfl rfl rfl rfl rfl (fun _ _ => rfl) (fun _ _ _ => rfl)) (fun _ _ => stg_end [10] rfl rfl (prs_cons (pri rfl (p_bin rfl rfl b_ne)) prs_nil) rfl rfl rfl ?_)))
          obtain ⟨d, hd⟩ : ∃ d, wrF z.off z.armed z.left (z.dur.length : Int) z.fr o.n (fillS (IntKind.u32.wrap o.n) (64 : Int).toNat) = d := ⟨_, rfl⟩
          obtain ⟨c, hc⟩ : ∃ c, rwF z.off z.rleft (z.dur.length : Int) z.new z.has o.n (fillS (IntKind.u32.wrap o.n) (64 : Int).toNat) = c := ⟨_, rfl⟩
          obtain ⟨he, hof, hdm⟩ := hz.write o.n (fillS (IntKind.u32.wrap o.n) (64 : Int).toNat) hd hc
          rw [hd, hc]
          refine r_cond rfl (fun h7 => ?_) (fun h7 => ?_)
          · (simp [he] at h7)
          · (try simp only [decide_eq_true_eq, decide_eq_false_iff_not, Bool.and_eq_true, Bool.or_eq_true, Bool.and_eq_false_iff, Bool.or_eq_false_iff, Bool.not_eq_true, Bool.not_eq_false, Bool.not_eq_true', Bool.not_eq_false', Bool.not_not, bne_iff_ne, beq_iff_eq] at h7)
            refine r_skip ?_
            refine r_region ?_
            refine r_p (p_move rfl) rfl ?_
            refine r_p (p_bin rfl rfl (b_add (by first | exact w_i64 (by omega) (by omega) | rfl))) rfl ?_
            refine r_p (p_assign rfl) rfl ?_
            refine r_nil ?_
            refine r_here (k + 1, ⟨d.off, z.armed, d.left, z.dur, d.fr, c.left, c.new, c.has⟩) ⟨⟨by dsimp only; omega, hdm⟩, by dsimp only; omega⟩ rfl (by rw [hof]; rfl) rfl
        · refine r_skip ?_
          refine r_seq ?_
          refine r_draw [85, 86, 87, 88, 89, 90, 91, 92, 93, 94, 95] _ rfl (stg_mem (V := [(0, 85, _), (1, 86, _), (2, 87, _), (3, 88, _), (5, 90, _), (6, 91, _), (7, 92, _), (8, 93, _)]) [0, 1, 2, 3, 5, 6, 7, 8] 4 [4, 3, 2, 1, 0] [] (fun _ => []) rfl rfl (prs_cons (pri rfl (p_move rfl)) (prs_cons (pri rfl (p_field0 fo30_1 rfl)) (prs_cons (pri rfl (p_load1 t3 rfl rfl (g_row1 (k := 10) rfl rfl))) (prs_cons (pri rfl (p_move rfl)) (prs_cons (pri rfl (p_move rfl)) (prs_cons (pri rfl (p_field0 fo30_1 rfl)) (prs_cons (pri rfl (p_load1 t3 rfl rfl (g_row1 (k := 10) rfl rfl))) (prs_cons (pri rfl (p_move rfl)) prs_nil)))))))) rfl rfl rfl rfl rfl rfl rfl rfl rfl rfl rfl (fun _ _ => rfl) rfl (ms_call (xs := [.tmp 85, .tmp 87, .tmp 88]) (write_spec D v m z.off z.armed z.left z.dur z.fr o.n t) cb19 [160, 161] [(true, 162)] [160, 161] [] rfl rfl rfl rfl rfl rfl rfl rfl (fun _ _ => rfl) (fun _ _ _ => rfl)) (fun _ _ => stg_mem [5, 6, 7, 8] 9 [9, 8, 7, 6, 5, 4, 3, 2, 1, 0] [10] (fun _ => [(10, 95, _)]) rfl rfl (prs_cons (pri rfl (p_move rfl)) (prs_cons (pri rfl (p_field0 fo30_1 rfl)) (prs_cons (pri rfl (p_load1 t3 rfl rfl (g_row1 (k := 10) rfl rfl))) (prs_cons (pri rfl (p_move rfl)) prs_nil)))) rfl rfl rfl rfl rfl rfl rfl rfl rfl rfl rfl (fun _ _ => rfl) rfl (ms_call (xs := [.tmp 90, .tmp 92, .tmp 93]) (rwrite_spec r vo vn vh z.off z.rleft z.dur z.new z.has o.n t h1_ h2_ hz.rl) cb20 [165, 167, 168] [(true, 166)] [165, 167, 168] [] rfl rfl rfl rfl rfl rfl rfl rfl (fun _ _ => rfl) (fun _ _ _ => rfl)) (fun _ _ => stg_end [10] rfl rfl (prs_cons (pri rfl (p_bin rfl rfl b_ne)) prs_nil) rfl rfl rfl ?_)))
          obtain ⟨d, hd⟩ : ∃ d, wrF z.off z.armed z.left (z.dur.length : Int) z.fr o.n t = d := ⟨_, rfl⟩
          obtain ⟨c, hc⟩ : ∃ c, rwF z.off z.rleft (z.dur.length : Int) z.new z.has o.n t = c := ⟨_, rfl⟩
          obtain ⟨he, hof, hdm⟩ := hz.write o.n t hd hc
          rw [hd, hc]
          refine r_cond rfl (fun h8 => ?_) (fun h8 => ?_)
          · (simp [he] at h8)
          · (try simp only [decide_eq_true_eq, decide_eq_false_iff_not, Bool.and_eq_true, Bool.or_eq_true, Bool.and_eq_false_iff, Bool.or_eq_false_iff, Bool.not_eq_true, Bool.not_eq_false, Bool.not_eq_true', Bool.not_eq_false', Bool.not_not, bne_iff_ne, beq_iff_eq] at h8)
            refine r_skip ?_
            refine r_region ?_
            refine r_p (p_move rfl) rfl ?_
            refine r_p (p_bin rfl rfl (b_add (by first | exact w_i64 (by omega) (by omega) | rfl))) rfl ?_
            refine r_p (p_assign rfl) rfl ?_
            refine r_nil ?_
            refine r_here (k + 1, ⟨d.off, z.armed, d.left, z.dur, d.fr, c.left, c.new, c.has⟩) ⟨⟨by dsimp only; omega, hdm⟩, by dsimp only; omega⟩ rfl (by rw [hof]; rfl) rfl
      · exact absurd hc4 (by simpa using h5)
    · refine r_region ?_
      refine r_p (p_bin rfl rfl b_eq) rfl ?_
      refine r_p (p_assign rfl) rfl ?_
      refine r_nil ?_
      refine r_cond rfl (fun h9 => ?_) (fun h9 => ?_)
      · refine r_seq ?_
        refine r_seq ?_
        refine r_region ?_
        refine r_p (p_field0 fo30_0 rfl) rfl ?_
        refine r_p (p_load1 t5 rfl rfl (g_row1 (k := 10) rfl rfl)) rfl ?_
        refine r_p (p_bin rfl rfl (b_rem (by omega) (by first | exact tmod_pos (by omega) | rfl))) rfl ?_
        refine r_p (p_bin rfl rfl b_eq) rfl ?_
        refine r_nil ?_
        refine r_cond rfl (fun h10 => ?_) (fun h10 => ?_)
        · refine r_region ?_
          refine r_p (p_field0 fo30_1 rfl) rfl ?_
          refine r_p (p_load1 t3 rfl rfl (g_row1 (k := 10) rfl rfl)) rfl ?_
          refine r_p (p_conv Try.underlying3 Try.underlying32 rfl (by first | exact w_u32 (by omega) (by omega) | rfl)) rfl ?_
          refine r_call (xs := [.tmp 83, .const (.int .i64 64)]) (fill_spec (IntKind.u32.wrap o.n) 64 (by decide) (by decide)) cb18 [] [] [] [] rfl rfl rfl rfl rfl rfl rfl rfl (fun _ _ => rfl) (fun _ _ _ => rfl) rfl (fun _ _ => ?_)
          refine r_p (p_assign rfl) rfl ?_
          refine r_nil ?_
          refine r_seq ?_
          refine r_draw [85, 86, 87, 88, 89, 90, 91, 92, 93, 94, 95] _ rfl (stg_mem (V := [(0, 85, _), (1, 86, _), (2, 87, _), (3, 88, _), (5, 90, _), (6, 91, _), (7, 92, _), (8, 93, _)]) [0, 1, 2, 3, 5, 6, 7, 8] 4 [4, 3, 2, 1, 0] [] (fun _ => []) rfl rfl (prs_cons (pri rfl (p_move rfl)) (prs_cons (pri rfl (p_field0 fo30_1 rfl)) (prs_cons (pri rfl (p_load1 t3 rfl rfl (g_row1 (k := 10) rfl rfl))) (prs_cons (pri rfl (p_move rfl)) (prs_cons (pri rfl (p_move rfl)) (prs_cons (pri rfl (p_field0 fo30_1 rfl)) (prs_cons (pri rfl (p_load1 t3 rfl rfl (g_row1 (k := 10) rfl rfl))) (prs_cons (pri rfl (p_move rfl)) prs_nil)))))))) rfl rfl rfl rfl rfl rfl rfl rfl rfl rfl rfl (fun _ _ => rfl) rfl (ms_call (xs := [.tmp 85, .tmp 87, .tmp 88]) (write_spec D v m z.off z.armed z.left z.dur z.fr o.n (fillS (IntKind.u32.wrap o.n) (64 : Int).toNat)) cb19 [160, 161] [(true, 162)] [160, 161] [] rfl rfl rfl rfl rfl rfl rfl rfl (fun _ _ => rfl) (fun _ _ _ => rfl)) (fun _ _ => stg_mem [5, 6, 7, 8] 9 [9, 8, 7, 6, 5, 4, 3, 2, 1, 0] [10] (fun _ => [(10, 95, _)]) rfl rfl (prs_cons (pri rfl (p_move rfl)) (prs_cons (pri rfl (p_field0 fo30_1 rfl)) (prs_cons (pri rfl (p_load1 t3 rfl rfl (g_row1 (k := 10) rfl rfl))) (prs_cons (pri rfl (p_move rfl)) prs_nil)))) rfl rfl rfl rfl rfl rfl rfl rfl rfl rfl rfl (fun _ _ => rfl) rfl (ms_call (xs := [.tmp 90, .tmp 92, .tmp 93]) (rwrite_spec r vo vn vh z.off z.rleft z.dur z.new z.has o.n (fillS (IntKind.u32.wrap o.n) (64 : Int).toNat) h1_ h2_ hz.rl) cb20 [165, 167, 168] [(true, 166)] [165, 167, 168] [] rfl rfl rfl rfl rfl rfl rfl rfl (fun _ _ => rfl) (fun _ _ _ => rfl)) (fun _ _ => stg_end [10] rfl rfl (prs_cons (pri rfl (p_bin rfl rfl b_ne)) prs_nil) rfl rfl rfl ?_)))
          obtain ⟨d, hd⟩ : ∃ d, wrF z.off z.armed z.left (z.dur.length : Int) z.fr o.n (fillS (IntKind.u32.wrap o.n) (64 : Int).toNat) = d := ⟨_, rfl⟩
          obtain ⟨c, hc⟩ : ∃ c, rwF z.off z.rleft (z.dur.length : Int) z.new z.has o.n (fillS (IntKind.u32.wrap o.n) (64 : Int).toNat) = c := ⟨_, rfl⟩
          obtain ⟨he, hof, hdm⟩ := hz.write o.n (fillS (IntKind.u32.wrap o.n) (64 : Int).toNat) hd hc
          rw [hd, hc]
          refine r_cond rfl (fun h11 => ?_) (fun h11 => ?_)
          · (simp [he] at h11)
          · (try simp only [decide_eq_true_eq, decide_eq_false_iff_not, Bool.and_eq_true, Bool.or_eq_true, Bool.and_eq_false_iff, Bool.or_eq_false_iff, Bool.not_eq_true, Bool.not_eq_false, Bool.not_eq_true', Bool.not_eq_false', Bool.not_not, bne_iff_ne, beq_iff_eq] at h11)
            refine r_skip ?_
            refine r_region ?_
            refine r_p (p_move rfl) rfl ?_
            refine r_p (p_bin rfl rfl (b_add (by first | exact w_i64 (by omega) (by omega) | rfl))) rfl ?_
            refine r_p (p_assign rfl) rfl ?_
            refine r_nil ?_
            refine r_here (k + 1, ⟨d.off, z.armed, d.left, z.dur, d.fr, c.left, c.new, c.has⟩) ⟨⟨by dsimp only; omega, hdm⟩, by dsimp only; omega⟩ rfl (by rw [hof]; rfl) rfl
        · refine r_skip ?_
          refine r_seq ?_
          refine r_draw [85, 86, 87, 88, 89, 90, 91, 92, 93, 94, 95] _ rfl (stg_mem (V := [(0, 85, _), (1, 86, _), (2, 87, _), (3, 88, _), (5, 90, _), (6, 91, _), (7, 92, _), (8, 93, _)]) [0, 1, 2, 3, 5, 6, 7, 8] 4 [4, 3, 2, 1, 0] [] (fun _ => []) rfl rfl (prs_cons (pri rfl (p_move rfl)) (prs_cons (pri rfl (p_field0 fo30_1 rfl)) (prs_cons (pri rfl (p_load1 t3 rfl rfl (g_row1 (k := 10) rfl rfl))) (prs_cons (pri rfl (p_move rfl)) (prs_cons (pri rfl (p_move rfl)) (prs_cons (pri rfl (p_field0 fo30_1 rfl)) (prs_cons (pri rfl (p_load1 t3 rfl rfl (g_row1 (k := 10) rfl rfl))) (prs_cons (pri rfl (p_move rfl)) prs_nil)))))))) rfl rfl rfl rfl rfl rfl rfl rfl rfl rfl rfl (fun _ _ => rfl) rfl (ms_call (xs := [.tmp 85, .tmp 87, .tmp 88]) (write_spec D v m z.off z.armed z.left z.dur z.fr o.n t) cb19 [160, 161] [(true, 162)] [160, 161] [] rfl rfl rfl rfl rfl rfl rfl rfl (fun _ _ => rfl) (fun _ _ _ => rfl)) (fun _ _ => stg_mem [5, 6, 7, 8] 9 [9, 8, 7, 6, 5, 4, 3, 2, 1, 0] [10] (fun _ => [(10, 95, _)]) rfl rfl (prs_cons (pri rfl (p_move rfl)) (prs_cons (pri rfl (p_field0 fo30_1 rfl)) (prs_cons (pri rfl (p_load1 t3 rfl rfl (g_row1 (k := 10) rfl rfl))) (prs_cons (pri rfl (p_move rfl)) prs_nil)))) rfl rfl rfl rfl rfl rfl rfl rfl rfl rfl rfl (fun _ _ => rfl) rfl (ms_call (xs := [.tmp 90, .tmp 92, .tmp 93]) (rwrite_spec r vo vn vh z.off z.rleft z.dur z.new z.has o.n t h1_ h2_ hz.rl) cb20 [165, 167, 168] [(true, 166)] [165, 167, 168] [] rfl rfl rfl rfl rfl rfl rfl rfl (fun _ _ => rfl) (fun _ _ _ => rfl)) (fun _ _ => stg_end [10] rfl rfl (prs_cons (pri rfl (p_bin rfl rfl b_ne)) prs_nil) rfl rfl rfl ?_)))
          obtain ⟨d, hd⟩ : ∃ d, wrF z.off z.armed z.left (z.dur.length : Int) z.fr o.n t = d := ⟨_, rfl⟩
          obtain ⟨c, hc⟩ : ∃ c, rwF z.off z.rleft (z.dur.length : Int) z.new z.has o.n t = c := ⟨_, rfl⟩
          obtain ⟨he, hof, hdm⟩ := hz.write o.n t hd hc
          rw [hd, hc]
          refine r_cond rfl (fun h12 => ?_) (fun h12 => ?_)
          · (simp [he] at h12)
          · (try simp only [decide_eq_true_eq, decide_eq_false_iff_not, Bool.and_eq_true, Bool.or_eq_true, Bool.and_eq_false_iff, Bool.or_eq_false_iff, Bool.not_eq_true, Bool.not_eq_false, Bool.not_eq_true', Bool.not_eq_false', Bool.not_not, bne_iff_ne, beq_iff_eq] at h12)
            refine r_skip ?_
            refine r_region ?_
            refine r_p (p_move rfl) rfl ?_
            refine r_p (p_bin rfl rfl (b_add (by first | exact w_i64 (by omega) (by omega) | rfl))) rfl ?_
            refine r_p (p_assign rfl) rfl ?_
            refine r_nil ?_
            refine r_here (k + 1, ⟨d.off, z.armed, d.left, z.dur, d.fr, c.left, c.new, c.has⟩) ⟨⟨by dsimp only; omega, hdm⟩, by dsimp only; omega⟩ rfl (by rw [hof]; rfl) rfl
      · refine r_seq ?_
        refine r_region ?_
        refine r_p (p_bin rfl rfl b_eq) rfl ?_
        refine r_p (p_assign rfl) rfl ?_
        refine r_nil ?_
        refine r_cond rfl (fun h13 => ?_) (fun h13 => ?_)
        · refine r_seq ?_
          refine r_region ?_
          refine r_p (p_move rfl) rfl ?_
          refine r_call (xs := [.tmp 98]) (sync_spec D v m z.off z.armed z.left z.dur z.fr (by rw [hz.dur]; exact hz.fr.bd)) cb21 [160, 161, 162] [] [160, 161, 162] [] rfl rfl rfl rfl rfl rfl rfl rfl (fun _ _ => rfl) (fun _ _ _ => rfl) rfl (fun y hy => ?_)
          obtain ⟨l, d⟩ := y
          obtain ⟨hl, hd⟩ := hy
          dsimp only at hl hd ⊢
          refine r_p (p_move rfl) rfl ?_
          refine r_call (xs := [.tmp 100]) (rsync_spec r vo vn vh z.off z.rleft z.dur z.new z.has h1_ h2_ hz.rl hdl) cb22 [165, 166, 168] [(true, 167)] [165, 166, 168] [] rfl rfl rfl rfl rfl rfl rfl rfl (fun _ _ => rfl) (fun _ _ _ => rfl) rfl (fun _ _ => ?_)
          obtain ⟨c, hc⟩ : ∃ c, rsF z.off z.rleft z.dur z.new z.has = c := ⟨_, rfl⟩
          obtain ⟨he, hof, hol, hdm⟩ := hz.sync hl hd hc
          rw [hc]
          refine r_p (p_bin rfl rfl b_ne) rfl ?_
          refine r_nil ?_
          refine r_cond rfl (fun h14 => ?_) (fun h14 => ?_)
          · (simp [he] at h14)
          · (try simp only [decide_eq_true_eq, decide_eq_false_iff_not, Bool.and_eq_true, Bool.or_eq_true, Bool.and_eq_false_iff, Bool.or_eq_false_iff, Bool.not_eq_true, Bool.not_eq_false, Bool.not_eq_true', Bool.not_eq_false', Bool.not_not, bne_iff_ne, beq_iff_eq] at h14)
            refine r_skip ?_
            refine r_region ?_
            refine r_p (p_move rfl) rfl ?_
            refine r_p (p_bin rfl rfl (b_add (by first | exact w_i64 (by omega) (by omega) | rfl))) rfl ?_
            refine r_p (p_assign rfl) rfl ?_
            refine r_nil ?_
            refine r_here (k + 1, ⟨d.off, z.armed, d.left, d.dur, d.fr, c.left, z.new, c.has⟩) ⟨⟨by dsimp only; omega, hdm⟩, by dsimp only; omega⟩ rfl (by rw [hof, hol]; rfl) rfl
        · refine r_seq ?_
          refine r_region ?_
          refine r_p (p_bin rfl rfl b_eq) rfl ?_
          refine r_p (p_assign rfl) rfl ?_
          refine r_nil ?_
          refine r_cond rfl (fun h15 => ?_) (fun h15 => ?_)
          · refine r_seq ?_
            refine r_region ?_
            refine r_p (p_move rfl) rfl ?_
            refine r_p (p_field0 fo30_1 rfl) rfl ?_
            refine r_p (p_load1 t3 rfl rfl (g_row1 (k := 10) rfl rfl)) rfl ?_
            refine r_call (xs := [.tmp 105, .tmp 107]) (arm_spec D v (some m) z.off z.armed z.left o.n) cb23 [160] [] [160] [] rfl rfl rfl rfl rfl rfl rfl rfl (fun _ _ => rfl) (fun _ _ _ => rfl) rfl (fun _ _ => ?_)
            refine r_nil ?_
            refine r_region ?_
            refine r_p (p_move rfl) rfl ?_
            refine r_p (p_field0 fo30_1 rfl) rfl ?_
            refine r_p (p_load1 t3 rfl rfl (g_row1 (k := 10) rfl rfl)) rfl ?_
            refine r_call (xs := [.tmp 109, .tmp 111]) (rarm_spec r vo vn vh z.off z.rleft o.n) cb24 [165] [] [165] [] rfl rfl rfl rfl rfl rfl rfl rfl (fun _ _ => rfl) (fun _ _ _ => rfl) rfl (fun _ _ => ?_)
            have hdm := hz.arm hb2.2
            refine r_nil ?_
            refine r_region ?_
            refine r_p (p_move rfl) rfl ?_
            refine r_p (p_bin rfl rfl (b_add (by first | exact w_i64 (by omega) (by omega) | rfl))) rfl ?_
            refine r_p (p_assign rfl) rfl ?_
            refine r_nil ?_
            refine r_here (k + 1, ⟨z.off, if z.off = true then z.armed else decide (o.n ≥ 0), if z.off = true then z.left else o.n, z.dur, z.fr, if z.off = true then z.rleft else max o.n (-1), z.new, z.has⟩) ⟨⟨by dsimp only; omega, hdm⟩, by dsimp only; omega⟩ rfl rfl rfl
          · refine r_seq ?_
            refine r_region ?_
            refine r_p (p_bin rfl rfl b_eq) rfl ?_
            refine r_p (p_assign rfl) rfl ?_
            refine r_nil ?_
            refine r_cond rfl (fun h16 => ?_) (fun h16 => ?_)
            · refine r_seq ?_
              refine r_region ?_
              refine r_p (p_move rfl) rfl ?_
              refine r_p (p_field0 fo30_3 rfl) rfl ?_
              refine r_p (p_load1 t28 rfl rfl (g_row1 (k := 10) rfl rfl)) rfl ?_
              refine r_more 1 70 rfl (qls_get (List.mem_map.2 ⟨o, List.mem_of_getElem? ho, rfl⟩)) ?_
              refine r_call (xs := [.tmp 115, .tmp 117]) (crash_q D v m z.off z.armed z.left z.dur z.fr o.q.v o.q.l hdl) cb25 [160, 161, 162] [(false, 70)] [160, 161, 162] [] rfl rfl rfl rfl rfl rfl rfl rfl (fun _ _ => rfl) (fun _ _ _ => rfl) rfl (fun _ _ => ?_)
              refine r_nil ?_
              refine r_region ?_
              refine r_p (p_move rfl) rfl ?_
              refine r_p (p_field0 fo30_3 rfl) rfl ?_
              refine r_p (p_load1 t28 rfl rfl (g_row1 (k := 10) rfl rfl)) rfl ?_
              refine r_call (xs := [.tmp 119, .tmp 121]) (rcrash_q r vo vn vh z.off z.rleft z.dur z.new z.has o.q.v o.q.l h1_ h2_ hdl) cb26 [165, 166, 168] [(true, 167), (false, 70)] [165, 166, 168] [] rfl rfl rfl rfl rfl rfl rfl rfl (fun _ _ => rfl) (fun _ _ _ => rfl) rfl (fun _ _ => ?_)
              obtain ⟨y, hy⟩ : ∃ y, sdN o.q.l (z.dur, z.fr, 0) z.dur.length = y := ⟨_, rfl⟩
              obtain ⟨c, hc⟩ : ∃ c, crN o.q.l z.new (z.dur, z.has, 0) z.dur.length = c := ⟨_, rfl⟩
              obtain ⟨hcy, hdm⟩ := hz.crash o.q.l hy hc
              rw [hy, hc, hcy]
              refine r_nil ?_
              refine r_region ?_
              refine r_p (p_move rfl) rfl ?_
              refine r_p (p_bin rfl rfl (b_add (by first | exact w_i64 (by omega) (by omega) | rfl))) rfl ?_
              refine r_p (p_assign rfl) rfl ?_
              refine r_nil ?_
              refine r_here (k + 1, ⟨false, false, z.left, y.1, y.2.1, -1, z.new, c.2.1⟩) ⟨⟨by dsimp only; omega, hdm⟩, by dsimp only; omega⟩ rfl rfl rfl
            · refine r_seq ?_
              refine r_region ?_
              refine r_p (p_move rfl) rfl ?_
              refine r_p (p_field0 fo30_1 rfl) rfl ?_
              refine r_p (p_load1 t3 rfl rfl (g_row1 (k := 10) rfl rfl)) rfl ?_
              refine r_call (xs := [.tmp 53, .tmp 55]) (read_spec D v (some m) z.off z.armed z.left z.dur z.fr o.n) cb27 [] [(true, 160), (true, 161), (true, 162)] [] [] rfl rfl rfl rfl rfl rfl rfl rfl (fun _ _ => rfl) (fun _ _ _ => rfl) rfl (fun _ _ => ?_)
              refine r_p (p_move rfl) rfl ?_
              refine r_p (p_extract rfl rfl) rfl ?_
              refine r_p (p_extract rfl rfl) rfl ?_
              refine r_p (p_assign rfl) rfl ?_
              refine r_p (p_assign rfl) rfl ?_
              refine r_nil ?_
              refine r_seq ?_
              refine r_region ?_
              refine r_p (p_move rfl) rfl ?_
              refine r_p (p_field0 fo30_1 rfl) rfl ?_
              refine r_p (p_load1 t3 rfl rfl (g_row1 (k := 10) rfl rfl)) rfl ?_
              refine r_call (xs := [.tmp 60, .tmp 62]) (rread_spec r vo vn vh z.off z.rleft z.dur z.new z.has o.n h1_ h2_) cb28 [] [(true, 165), (true, 166), (true, 167), (true, 168)] [] [] rfl rfl rfl rfl rfl rfl rfl rfl (fun _ _ => rfl) (fun _ _ _ => rfl) rfl (fun _ _ => ?_)
              rw [hz.read o.n]
              refine r_p (p_move rfl) rfl ?_
              refine r_p (p_extract rfl rfl) rfl ?_
              refine r_p (p_extract rfl rfl) rfl ?_
              refine r_p (p_assign rfl) rfl ?_
              refine r_p (p_assign rfl) rfl ?_
              refine r_nil ?_
              refine r_seq ?_
              refine r_region ?_
              refine r_p (p_move rfl) rfl ?_
              refine r_p (p_move rfl) rfl ?_
              refine r_p (p_bin rfl rfl b_sne) rfl ?_
              refine r_p (p_move rfl) rfl ?_
              refine r_split (t := 69) rfl (fun h17 => False.elim (by simp [ba_eq] at h17)) (fun h17 => ?_)
              refine r_gyes rfl rfl ?_
              refine r_p (p_move rfl) rfl ?_
              refine r_gyes rfl rfl ?_
              refine r_p (p_move rfl) rfl ?_
              refine r_gyes rfl rfl ?_
              refine r_p (p_bin rfl rfl b_ne) rfl ?_
              refine r_p (p_pick rfl rfl rfl (by first | exact pick_and | exact pick_or |  rfl)) rfl ?_
              refine r_nil ?_
              refine r_cond rfl (fun h18 => ?_) (fun h18 => ?_)
              · exact absurd h18 (by simp)
              · (try simp only [decide_eq_true_eq, decide_eq_false_iff_not, Bool.and_eq_true, Bool.or_eq_true, Bool.and_eq_false_iff, Bool.or_eq_false_iff, Bool.not_eq_true, Bool.not_eq_false, Bool.not_eq_true', Bool.not_eq_false', Bool.not_not, bne_iff_ne, beq_iff_eq] at h18)
                refine r_skip ?_
                refine r_region ?_
                refine r_p (p_move rfl) rfl ?_
                refine r_p (p_bin rfl rfl (b_add (by first | exact w_i64 (by omega) (by omega) | rfl))) rfl ?_
                refine r_p (p_assign rfl) rfl ?_
                refine r_nil ?_
                refine r_here (k + 1, z) ⟨⟨by dsimp only; omega, hz⟩, by dsimp only; omega⟩ rfl rfl rfl
  · (try simp only [decide_eq_true_eq, decide_eq_false_iff_not, Bool.and_eq_true, Bool.or_eq_true, Bool.and_eq_false_iff, Bool.or_eq_false_iff, Bool.not_eq_true, Bool.not_eq_false, Bool.not_eq_true', Bool.not_eq_false', Bool.not_not, bne_iff_ne, beq_iff_eq] at h3)
    refine r_exit ?_
    refine r_seq ?_
    refine r_region ?_
    refine r_p (p_move rfl) rfl ?_
    refine r_bslice1 eI _ Try.underlying28 t3 rfl (by decide) (by decide) rfl rfl rfl rfl fun v124 => ?_
    refine r_freeze 124 124 rfl own_to_sl ?_
    refine r_more 124 71 rfl sl_slq ?_
    refine r_call (xs := [.tmp 123, .tmp 124]) (crash_q D v m z.off z.armed z.left z.dur z.fr v124 [(1 : Int)] hdl) cb25 [160, 161, 162] [(false, 71)] [160, 161, 162] [] rfl rfl rfl rfl rfl rfl rfl rfl (fun _ _ => rfl) (fun _ _ _ => rfl) rfl (fun _ _ => ?_)
    refine r_nil ?_
    refine r_seq ?_
    refine r_region ?_
    refine r_p (p_move rfl) rfl ?_
    refine r_bslice1 eI _ Try.underlying28 t3 rfl (by decide) (by decide) rfl rfl rfl rfl fun v127 => ?_
    refine r_freeze 127 127 rfl own_to_sl ?_
    refine r_more 127 72 rfl sl_slq ?_
    refine r_call (xs := [.tmp 126, .tmp 127]) (rcrash_q r vo vn vh z.off z.rleft z.dur z.new z.has v127 [(1 : Int)] h1_ h2_ hdl) cb26 [165, 166, 168] [(true, 167), (false, 72)] [165, 166, 168] [] rfl rfl rfl rfl rfl rfl rfl rfl (fun _ _ => rfl) (fun _ _ _ => rfl) rfl (fun _ _ => ?_)
    obtain ⟨y, hy⟩ : ∃ y, sdN [(1 : Int)] (z.dur, z.fr, 0) z.dur.length = y := ⟨_, rfl⟩
    obtain ⟨c, hc⟩ : ∃ c, crN [(1 : Int)] z.new (z.dur, z.has, 0) z.dur.length = c := ⟨_, rfl⟩
    obtain ⟨hcy, hdm⟩ := hz.crash [(1 : Int)] hy hc
    rw [hy, hc, hcy]
    have hrd := hdm.read
    dsimp only at hrd
    have g1 : z.new.length = y.1.length := by have h3 := hdm.new; have h4 := hdm.dur; dsimp only at h3 h4; omega
    have g2 : c.2.1.length = y.1.length := by have h3 := hdm.has; have h4 := hdm.dur; dsimp only at h3 h4; omega
    refine r_nil ?_
    refine r_seq ?_
    refine r_seq ?_
    refine r_region ?_
    refine r_p (p_assign rfl) rfl ?_
    refine r_nil ?_
    refine r_block ?_
    refine r_loop (X := Nat) (fun k2 => k2 ≤ 14) (fun k2 => [(5, .bool true), (7, .pointer (some ⟨D, 0, none⟩)), (8, .pointer (some ⟨r, 0, none⟩)), (16, .int .i64 ((k2 : Int) - 1))]) (fun k2 => [(160, row D 94 (dC v (some m) false false z.left)), (161, mp mkI Prod.fst vS (some m) y.2.1), (162, own 9 1 eS (sv v) y.1), (165, row r 44 (rC vo vn vh false (-1))), (166, own 9 1 eS (sv vo) y.1), (167, own 9 1 eS (sv vn) z.new), (168, own 4 1 eB (sv vh) c.2.1)]) (fun k2 => []) (fun k2 => 14 - k2) 0 (Nat.zero_le _) rfl rfl rfl (fun k2 hk2 => ?_)
    refine r_seq ?_
    refine r_seq ?_
    refine r_region ?_
    refine r_p (p_move rfl) rfl ?_
    refine r_p (p_bin rfl rfl b_lt) rfl ?_
    refine r_nil ?_
    refine r_cond rfl (fun h19 => ?_) (fun h19 => ?_)
    · (try simp only [decide_eq_true_eq, decide_eq_false_iff_not, Bool.and_eq_true, Bool.or_eq_true, Bool.and_eq_false_iff, Bool.or_eq_false_iff, Bool.not_eq_true, Bool.not_eq_false, Bool.not_eq_true', Bool.not_eq_false', Bool.not_not, bne_iff_ne, beq_iff_eq] at h19)
      have hk14 : k2 < 14 := by omega
      refine r_skip ?_
      refine r_seq ?_
      refine r_block ?_
      refine r_seq ?_
      refine r_region ?_
      refine r_p (p_move rfl) rfl ?_
      refine r_p (p_move rfl) rfl ?_
      refine r_call (xs := [.tmp 134, .tmp 135]) (read_spec D v (some m) false false z.left y.1 y.2.1 ((k2 : Int) - 1)) cb27 [] [(true, 160), (true, 161), (true, 162)] [] [] rfl rfl rfl rfl rfl rfl rfl rfl (fun _ _ => rfl) (fun _ _ _ => rfl) rfl (fun _ _ => ?_)
      refine r_p (p_move rfl) rfl ?_
      refine r_p (p_extract rfl rfl) rfl ?_
      refine r_p (p_extract rfl rfl) rfl ?_
      refine r_p (p_assign rfl) rfl ?_
      refine r_p (p_assign rfl) rfl ?_
      refine r_nil ?_
      refine r_seq ?_
      refine r_region ?_
      refine r_p (p_move rfl) rfl ?_
      refine r_p (p_move rfl) rfl ?_
      refine r_call (xs := [.tmp 140, .tmp 141]) (rread_spec r vo vn vh false (-1) y.1 z.new c.2.1 ((k2 : Int) - 1) g1 g2) cb28 [] [(true, 165), (true, 166), (true, 167), (true, 168)] [] [] rfl rfl rfl rfl rfl rfl rfl rfl (fun _ _ => rfl) (fun _ _ _ => rfl) rfl (fun _ _ => ?_)
      rw [hrd ((k2 : Int) - 1)]
      refine r_p (p_move rfl) rfl ?_
      refine r_p (p_extract rfl rfl) rfl ?_
      refine r_p (p_extract rfl rfl) rfl ?_
      refine r_p (p_assign rfl) rfl ?_
      refine r_p (p_assign rfl) rfl ?_
      refine r_nil ?_
      refine r_seq ?_
      refine r_region ?_
      refine r_p (p_move rfl) rfl ?_
      refine r_p (p_move rfl) rfl ?_
      refine r_p (p_bin rfl rfl b_sne) rfl ?_
      refine r_p (p_move rfl) rfl ?_
      refine r_split (t := 148) rfl (fun h20 => False.elim (by simp [ba_eq] at h20)) (fun h20 => ?_)
      refine r_gyes rfl rfl ?_
      refine r_p (p_move rfl) rfl ?_
      refine r_gyes rfl rfl ?_
      refine r_p (p_move rfl) rfl ?_
      refine r_gyes rfl rfl ?_
      refine r_p (p_bin rfl rfl b_ne) rfl ?_
      refine r_p (p_pick rfl rfl rfl (by first | exact pick_and | exact pick_or |  rfl)) rfl ?_
      refine r_nil ?_
      refine r_cond rfl (fun h21 => ?_) (fun h21 => ?_)
      · exact absurd h21 (by simp)
      · (try simp only [decide_eq_true_eq, decide_eq_false_iff_not, Bool.and_eq_true, Bool.or_eq_true, Bool.and_eq_false_iff, Bool.or_eq_false_iff, Bool.not_eq_true, Bool.not_eq_false, Bool.not_eq_true', Bool.not_eq_false', Bool.not_not, bne_iff_ne, beq_iff_eq] at h21)
        refine r_skip ?_
        refine r_region ?_
        refine r_p (p_move rfl) rfl ?_
        refine r_p (p_bin rfl rfl (b_add (by first | exact w_i64 (by omega) (by omega) | rfl))) rfl ?_
        refine r_p (p_assign rfl) rfl ?_
        refine r_nil ?_
        refine r_here (k2 + 1) ⟨by omega, by omega⟩ (by rw [show ((k2 : Int) - 1 + 1) = (((k2 + 1 : Nat) : Int) - 1) by omega]; rfl) rfl rfl
    · (try simp only [decide_eq_true_eq, decide_eq_false_iff_not, Bool.and_eq_true, Bool.or_eq_true, Bool.and_eq_false_iff, Bool.or_eq_false_iff, Bool.not_eq_true, Bool.not_eq_false, Bool.not_eq_true', Bool.not_eq_false', Bool.not_not, bne_iff_ne, beq_iff_eq] at h19)
      refine r_exit ?_
      refine r_seq ?_
      refine r_draw [153, 154, 155, 156, 157, 158, 159, 160, 161, 162, 163, 4] _ rfl (stg_memg (V := [(0, 153, _), (1, 154, _), (2, 155, _), (4, 157, _), (5, 158, _), (6, 159, _), (7, 160, _), (8, 161, _)]) [0, 1, 2, 4, 5, 6, 7, 8] 3 [3, 2, 1, 0] [9, 10, 11] (fun _ => [(9, 162, _), (10, 163, _), (11, 4, _)]) rfl rfl (prs_cons (pri rfl (p_move rfl)) (prs_cons (pri rfl (p_move rfl)) (prs_cons (prig_y rfl rfl rfl rfl (p_move rfl)) (prs_cons (prig_y rfl rfl rfl rfl (p_move rfl)) (prs_cons (prig_y rfl rfl rfl rfl (p_nilCheck rfl)) (prs_cons (prig_y rfl rfl rfl rfl (p_field0 fo44_0 rfl)) (prs_cons (prig_y rfl rfl rfl rfl (p_load1 t41 rfl rfl (g_row1 (k := 165) rfl rfl))) (prs_cons (prig_y rfl rfl rfl rfl (p_len_sl Try.underlying41 rfl (hs_own (k := 166) rfl))) prs_nil)))))))) rfl rfl rfl rfl rfl rfl rfl rfl rfl rfl rfl rfl (fun _ _ => rfl) rfl (ms_call (xs := [.tmp 155]) (sectors_spec D v (some m) false false z.left y.1) cb29 [] [(true, 160), (true, 162)] [] [] rfl rfl rfl rfl rfl rfl rfl rfl (fun _ _ => rfl) (fun _ _ _ => rfl)) (fun _ _ => stg_end [9, 10, 11, 4, 5, 6, 7, 8] rfl rfl (prs_cons (prig_y rfl rfl rfl rfl (p_bin rfl rfl b_eq)) (prs_cons (pri rfl (p_pick rfl rfl rfl (pick_t rfl))) (prs_cons (pri rfl (p_assign rfl)) (prs_cons (prig_y rfl rfl rfl rfl (p_move rfl)) (prs_cons (prig_y rfl rfl rfl rfl (p_nilCheck rfl)) (prs_cons (prig_y rfl rfl rfl rfl (p_field0 fo44_0 rfl)) (prs_cons (prig_y rfl rfl rfl rfl (p_load1 t41 rfl rfl (g_row1 (k := 165) rfl rfl))) (prs_cons (prig_y rfl rfl rfl rfl (p_len_sl Try.underlying41 rfl (hs_own (k := 166) rfl))) prs_nil)))))))) rfl rfl rfl ?_))
      refine r_cret ?_
      refine r_ret () trivial rfl (rs1 (rv_tmp rfl)) (by first | rfl | simp) [] [] rfl rfl rfl

end Go.Proofs.Ytohenjmkhncoiaa
