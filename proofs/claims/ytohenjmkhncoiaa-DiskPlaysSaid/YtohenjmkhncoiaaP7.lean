/-
  The model of the disk: making, and a crash with any numbers. No condition.
-/
import Derived.Test.YtohenjmkhncoiaaP6
namespace Go.Proofs.Ytohenjmkhncoiaa
set_option linter.unusedSimpArgs false
set_option linter.unusedVariables false
open Go.RowKit

theorem spec_slq2 {P : Program} {n : Nat} {vs : List Value} {L R0 : List Asn} {A0 : Asn} {v : SV} {l : List Int} {X : Type} {φ : X → Prop} {u : X → Value} {L' R' : X → List Asn} (h1 : Spec P n vs L (A0 :: sl 1 eI (sv v) l :: R0) φ u L' R') (h2 : l = [] → v.n = 0 → Spec P n vs L (A0 :: R0) φ u L' R') : Spec P n vs L (A0 :: slq v l :: R0) φ u L' R' := by
  intro w M H ⟨F, hF⟩
  obtain ⟨G, hp, hG⟩ := hF.ro 1 (slq v l) rfl
  rcases hp with ⟨G', g1, g2⟩ | ⟨g1, g2⟩
  · refine h1 w M H ⟨F, hF.touch, hF.has, hF.lt, hF.mine, hF.apart, fun k A hA => ?_⟩
    cases k with
    | zero => exact hF.ro 0 A hA
    | succ k =>
      cases k with
      | zero =>
        simp at hA
        subst hA
        exact ⟨G', g1, fun b hb => hG b (g2 b hb)⟩
      | succ k => exact hF.ro (k + 2) A hA
  · exact h2 g1 g2 w M H ⟨F, hF.touch, hF.has, hF.lt, hF.mine, hF.apart, fun k A hA => by
      cases k with
      | zero => exact hF.ro 0 A hA
      | succ k => exact hF.ro (k + 2) A hA⟩
set_option maxHeartbeats 1000000 in
set_option maxRecDepth 100000 in
theorem rcrash0_e (r : Nat) (vo vn vh : SV) (off : Bool) (left : Int) (old new : List ByteArray) (has : List Bool) (vq : SV) (ql : List Int) (h1 : new.length = old.length) (h2 : has.length = old.length) (hlen : old.length ≤ 65536) (hq0 : ql = []) (hv : vq.n = 0) (hq : ¬ 0 < ql.length) :
    Spec Try.prog 26 [.pointer (some ⟨r, 0, none⟩), sv vq] [row r 44 (rC vo vn vh off left), own 9 1 eS (sv vo) old, own 4 1 eB (sv vh) has] [own 9 1 eS (sv vn) new] (X := Unit) (fun _ => True) (fun _ => .tuple #[]) (fun _ => [row r 44 (rC vo vn vh false (-1)), own 9 1 eS (sv vo) (crN ql new (old, has, 0) old.length).1, own 4 1 eB (sv vh) (crN ql new (old, has, 0) old.length).2.1]) (fun _ => []) := by
  refine r_enter Try.func26 rfl Try.ntmps26 rfl fun w0 M H => ?_
  refine r_more 0 0 rfl (fun w G h _ => ⟨G, own_to_sl w G h, fun _ hb => hb⟩) ?_
  refine r_seq ?_
  refine r_region ?_
  refine r_p (p_assign rfl) rfl ?_
  refine r_nil ?_
  refine r_seq ?_
  refine r_seq ?_
  refine r_region ?_
  refine r_p (p_assign rfl) rfl ?_
  refine r_nil ?_
  refine r_block ?_
  refine r_loop (X := Nat) (fun k => k ≤ old.length) (fun k => [(0, .pointer (some ⟨r, 0, none⟩)), (1, sv vq), (4, .int .i64 ((crN ql new (old, has, 0) k).2.2 : Int)), (5, .int .i64 (k : Int))]) (fun k => [(0, row r 44 (rC vo vn vh off left)), (1, own 9 1 eS (sv vo) (crN ql new (old, has, 0) k).1), (2, own 4 1 eB (sv vh) (crN ql new (old, has, 0) k).2.1)]) (fun k => [(0, sl 1 eS (sv vn) new)]) (fun k => old.length - k) 0 (Nat.zero_le _) rfl rfl rfl (fun k hk0 => ?_)
  obtain ⟨hy1, hy2, hy3⟩ := crN_len ql new (old, has, 0) k
  dsimp only at hy1 hy2 hy3
  refine r_seq ?_
  refine r_seq ?_
  refine r_region ?_
  refine r_p (p_move rfl) rfl ?_
  refine r_p (p_move rfl) rfl ?_
  refine r_p (p_nilCheck rfl) rfl ?_
  refine r_p (p_field0 fo44_0 rfl) rfl ?_
  refine r_p (p_load1 t41 rfl rfl (g_row1 (k := 0) rfl rfl)) rfl ?_
  refine r_p (p_len_sl Try.underlying41 rfl (hs_own (k := 1) rfl)) rfl ?_
  refine r_p (p_bin rfl rfl b_lt) rfl ?_
  refine r_nil ?_
  refine r_cond rfl (fun h1 => ?_) (fun h1 => ?_)
  · (try simp only [decide_eq_true_eq, decide_eq_false_iff_not, Bool.and_eq_true, Bool.or_eq_true, Bool.and_eq_false_iff, Bool.or_eq_false_iff, Bool.not_eq_true, Bool.not_eq_false, Bool.not_eq_true', Bool.not_eq_false', Bool.not_not, bne_iff_ne, beq_iff_eq] at h1)
    have hk : k < old.length := by omega
    refine r_skip ?_
    refine r_seq ?_
    refine r_block ?_
    refine r_seq ?_
    refine r_seq ?_
    refine r_region ?_
    refine r_p (p_move rfl) rfl ?_
    refine r_p (p_nilCheck rfl) rfl ?_
    refine r_p (p_field0 fo44_2 rfl) rfl ?_
    refine r_p (p_load1 t42 rfl rfl (g_row1 (k := 0) rfl rfl)) rfl ?_
    refine r_p (p_move rfl) rfl ?_
    refine r_p (p_idx_sl (j := k) Try.underlying42 t4 rfl rfl (hs_own (k := 2) rfl) (by first | rfl | omega) (by first | omega | (simp; done) | (simp; omega))) rfl ?_
    refine r_p (p_load1 t4 rfl rfl (g_el' (hs_own (k := 2) rfl) (by intro _; rfl) (getD_get false (by omega)) (by rfl))) rfl ?_
    refine r_p (p_not rfl) rfl ?_
    refine r_nil ?_
    refine r_cond rfl (fun h2 => ?_) (fun h2 => ?_)
    · have hp2 : ¬ (crN ql new (old, has, 0) k).2.1.getD k false = true := by simpa using h2
      refine r_exit ?_
      refine r_region ?_
      refine r_p (p_move rfl) rfl ?_
      refine r_p (p_bin rfl rfl (b_add (by first | exact w_i64 (by omega) (by omega) | rfl))) rfl ?_
      refine r_p (p_assign rfl) rfl ?_
      refine r_nil ?_
      have hs : (crN ql new (old, has, 0) (k + 1)) = (crN ql new (old, has, 0) k) := by
        show stc ql new _ k = _
        unfold stc
        rw [if_neg hp2]
      refine r_here (k + 1) ⟨by omega, by omega⟩ (by rw [hs]; rfl) (by rw [hs]; rfl) rfl
    · have hp2 : (crN ql new (old, has, 0) k).2.1.getD k false = true := by simpa using h2
      refine r_skip ?_
      refine r_seq ?_
      refine r_seq ?_
      refine r_region ?_
      refine r_p (p_move rfl) rfl ?_
      refine r_p (p_len_sv Try.underlying28 rfl) rfl ?_
      refine r_p (p_bin rfl rfl b_gt) rfl ?_
      refine r_p (p_move rfl) rfl ?_
      refine r_split (t := 26) rfl (fun h3 => False.elim (by simp [hv] at h3)) (fun h3 => ?_)
      refine r_gno rfl rfl rfl rfl ?_
      refine r_gno rfl rfl rfl rfl ?_
      refine r_gno rfl rfl rfl rfl ?_
      refine r_gno rfl rfl rfl rfl ?_
      refine r_gno rfl rfl rfl rfl ?_
      refine r_gno rfl rfl rfl rfl ?_
      refine r_gno rfl rfl rfl rfl ?_
      refine r_gno rfl rfl rfl rfl ?_
      refine r_gno rfl rfl rfl rfl ?_
      refine r_p (p_pick rfl rfl rfl (by first | exact pick_and | exact pick_or |  rfl)) rfl ?_
      refine r_nil ?_
      refine r_cond rfl (fun h4 => ?_) (fun h4 => ?_)
      · have hp3 : crB ql (crN ql new (old, has, 0) k).2.2 = true := by unfold crB; simp at h4
        refine r_draw [37, 38, 39, 40, 41, 42, 43, 44, 45, 46, 47, 48, 49] _ rfl (stg_mem0 (V := [(0, 37, _), (1, 38, _), (2, 39, _), (3, 40, _), (4, 41, _), (5, 42, _), (6, 43, _), (7, 44, _), (8, 45, _), (9, 46, _), (10, 47, _), (11, 48, _), (12, 49, _)]) [0, 1, 2, 3, 4, 5, 6, 7, 8, 9, 10, 11, 12] 13 [13, 12, 11, 10, 9, 8, 7, 6, 5, 4, 3, 2, 1, 0] [] (fun _ => []) rfl rfl (prs_cons (pri rfl (p_move rfl)) (prs_cons (pri rfl (p_nilCheck rfl)) (prs_cons (pri rfl (p_field0 fo44_0 rfl)) (prs_cons (pri rfl (p_load1 t41 rfl rfl (g_row1 (k := 0) rfl rfl))) (prs_cons (pri rfl (p_move rfl)) (prs_cons (pri rfl (p_move rfl)) (prs_cons (pri rfl (p_nilCheck rfl)) (prs_cons (pri rfl (p_field0 fo44_1 rfl)) (prs_cons (pri rfl (p_load1 t41 rfl rfl (g_row1 (k := 0) rfl rfl))) (prs_cons (pri rfl (p_move rfl)) (prs_cons (pri rfl (p_idx_sl (j := k) Try.underlying41 t9 rfl rfl (hs_sl (k := 0) rfl) (by first | rfl | omega) (by first | omega | (simp; done) | (simp; omega)))) (prs_cons (pri rfl (p_load1 t9 rfl rfl (g_el' (hs_sl (k := 0) rfl) (by intro _; rfl) (getD_get ByteArray.empty (by omega)) (by rfl)))) (prs_cons (pri rfl (p_idx_sl (j := k) Try.underlying41 t9 rfl rfl (hs_own (k := 1) rfl) (by first | rfl | omega) (by first | omega | (simp; done) | (simp; omega)))) prs_nil))))))))))))) rfl rfl rfl rfl rfl rfl rfl rfl rfl (fun _ _ => rfl) rfl (ms_store_el (k := 1) (e' := (new.getD k ByteArray.empty)) t9 rfl rfl rfl (by intro _; rfl) (getD_get ByteArray.empty (by omega)) rfl rfl) (fun _ _ => stg_end [] rfl rfl prs_nil rfl rfl rfl ?_))
        refine r_seq ?_
        refine r_region ?_
        refine r_p (p_move rfl) rfl ?_
        refine r_p (p_nilCheck rfl) rfl ?_
        refine r_p (p_field0 fo44_2 rfl) rfl ?_
        refine r_p (p_load1 t42 rfl rfl (g_row1 (k := 0) rfl rfl)) rfl ?_
        refine r_p (p_move rfl) rfl ?_
        refine r_p (p_idx_sl (j := k) Try.underlying42 t4 rfl rfl (hs_own (k := 2) rfl) (by first | rfl | omega) (by first | omega | (simp; done) | (simp; omega))) rfl ?_
        refine r_store_el (k := 2) (e' := false) t4 rfl rfl rfl (by intro _; rfl) (getD_get false (by omega)) rfl rfl ?_
        refine r_nil ?_
        refine r_region ?_
        refine r_p (p_move rfl) rfl ?_
        refine r_p (p_bin rfl rfl (b_add (by first | exact w_i64 (by omega) (by omega) | rfl))) rfl ?_
        refine r_p (p_assign rfl) rfl ?_
        refine r_nil ?_
        refine r_region ?_
        refine r_p (p_move rfl) rfl ?_
        refine r_p (p_bin rfl rfl (b_add (by first | exact w_i64 (by omega) (by omega) | rfl))) rfl ?_
        refine r_p (p_assign rfl) rfl ?_
        refine r_nil ?_
        have hs : (crN ql new (old, has, 0) (k + 1)) = ((crN ql new (old, has, 0) k).1.set k (new.getD k ByteArray.empty), (crN ql new (old, has, 0) k).2.1.set k false, (crN ql new (old, has, 0) k).2.2 + 1) := by
          show stc ql new _ k = _
          unfold stc
          rw [if_pos hp2, if_pos hp3]
        refine r_here (k + 1) ⟨by omega, by omega⟩ (by rw [hs]; rfl) (by rw [hs]; rfl) rfl
      · have hp3 : ¬ crB ql (crN ql new (old, has, 0) k).2.2 = true := by unfold crB; rw [decide_eq_false hq]; simp
        refine r_skip ?_
        refine r_seq ?_
        refine r_region ?_
        refine r_p (p_move rfl) rfl ?_
        refine r_p (p_nilCheck rfl) rfl ?_
        refine r_p (p_field0 fo44_2 rfl) rfl ?_
        refine r_p (p_load1 t42 rfl rfl (g_row1 (k := 0) rfl rfl)) rfl ?_
        refine r_p (p_move rfl) rfl ?_
        refine r_p (p_idx_sl (j := k) Try.underlying42 t4 rfl rfl (hs_own (k := 2) rfl) (by first | rfl | omega) (by first | omega | (simp; done) | (simp; omega))) rfl ?_
        refine r_store_el (k := 2) (e' := false) t4 rfl rfl rfl (by intro _; rfl) (getD_get false (by omega)) rfl rfl ?_
        refine r_nil ?_
        refine r_region ?_
        refine r_p (p_move rfl) rfl ?_
        refine r_p (p_bin rfl rfl (b_add (by first | exact w_i64 (by omega) (by omega) | rfl))) rfl ?_
        refine r_p (p_assign rfl) rfl ?_
        refine r_nil ?_
        refine r_region ?_
        refine r_p (p_move rfl) rfl ?_
        refine r_p (p_bin rfl rfl (b_add (by first | exact w_i64 (by omega) (by omega) | rfl))) rfl ?_
        refine r_p (p_assign rfl) rfl ?_
        refine r_nil ?_
        have hs : (crN ql new (old, has, 0) (k + 1)) = ((crN ql new (old, has, 0) k).1, (crN ql new (old, has, 0) k).2.1.set k false, (crN ql new (old, has, 0) k).2.2 + 1) := by
          show stc ql new _ k = _
          unfold stc
          rw [if_pos hp2, if_neg hp3]
        refine r_here (k + 1) ⟨by omega, by omega⟩ (by rw [hs]; rfl) (by rw [hs]; rfl) rfl
  · (try simp only [decide_eq_true_eq, decide_eq_false_iff_not, Bool.and_eq_true, Bool.or_eq_true, Bool.and_eq_false_iff, Bool.or_eq_false_iff, Bool.not_eq_true, Bool.not_eq_false, Bool.not_eq_true', Bool.not_eq_false', Bool.not_not, bne_iff_ne, beq_iff_eq] at h1)
    have hk : k = old.length := by omega
    subst hk
    refine r_exit ?_
    refine r_seq ?_
    refine r_region ?_
    refine r_p (p_move rfl) rfl ?_
    refine r_p (p_nilCheck rfl) rfl ?_
    refine r_p (p_field0 fo44_3 rfl) rfl ?_
    refine r_store_row (k := 0) t4 rfl rfl rfl rfl rfl rfl rfl rfl ?_
    refine r_nil ?_
    refine r_region ?_
    refine r_p (p_move rfl) rfl ?_
    refine r_p (p_nilCheck rfl) rfl ?_
    refine r_p (p_field0 fo44_4 rfl) rfl ?_
    refine r_store_row (k := 0) t3 rfl rfl rfl rfl rfl rfl rfl rfl ?_
    refine r_nil ?_
    refine r_end () trivial rfl rs0 rfl [0, 1, 2] [] rfl rfl rfl
set_option maxRecDepth 100000 in
theorem rcrash_q (r : Nat) (vo vn vh : SV) (off : Bool) (left : Int) (old new : List ByteArray) (has : List Bool) (vq : SV) (ql : List Int) (h1 : new.length = old.length) (h2 : has.length = old.length) (hlen : old.length ≤ 65536) :
    Spec Try.prog 26 [.pointer (some ⟨r, 0, none⟩), sv vq] [row r 44 (rC vo vn vh off left), own 9 1 eS (sv vo) old, own 4 1 eB (sv vh) has] [own 9 1 eS (sv vn) new, slq vq ql] (X := Unit) (fun _ => True) (fun _ => .tuple #[]) (fun _ => [row r 44 (rC vo vn vh false (-1)), own 9 1 eS (sv vo) (crN ql new (old, has, 0) old.length).1, own 4 1 eB (sv vh) (crN ql new (old, has, 0) old.length).2.1]) (fun _ => []) := by
  refine spec_slq2 ?_ fun q1 q2 => rcrash0_e r vo vn vh off left old new has vq ql h1 h2 hlen q1 q2 (by rw [q1]; simp)
  by_cases hq : 0 < ql.length
  · exact rcrash_n r vo vn vh off left old new has vq ql h1 h2 hlen hq
  · exact rcrash_e r vo vn vh off left old new has vq ql h1 h2 hlen hq
set_option maxRecDepth 100000 in
theorem rsync_offT (r : Nat) (vo vn vh : SV) (left : Int) (old new : List ByteArray) (has : List Bool) :
    Spec Try.prog 22 [.pointer (some ⟨r, 0, none⟩)] [row r 44 (rC vo vn vh true left), own 9 1 eS (sv vo) old, own 4 1 eB (sv vh) has] [own 9 1 eS (sv vn) new] (X := Unit) (fun _ => True) (fun _ => .int .i64 50) (fun _ => [row r 44 (rC vo vn vh true left), own 9 1 eS (sv vo) old, own 4 1 eB (sv vh) has]) (fun _ => []) := by
  refine r_enter Try.func22 rfl Try.ntmps22 rfl fun w0 M H => ?_
  refine r_seq ?_
  refine r_region ?_
  refine r_p (p_assign rfl) rfl ?_
  refine r_nil ?_
  refine r_seq ?_
  refine r_seq ?_
  refine r_region ?_
  refine r_p (p_move rfl) rfl ?_
  refine r_p (p_nilCheck rfl) rfl ?_
  refine r_p (p_field0 fo44_3 rfl) rfl ?_
  refine r_p (p_load1 t4 rfl rfl (g_row1 (k := 0) rfl rfl)) rfl ?_
  refine r_p (p_move rfl) rfl ?_
  refine r_split (t := 8) rfl (fun h1 => ?_) (fun h1 => False.elim (by simp at h1))
  refine r_gno rfl rfl rfl rfl ?_
  refine r_gno rfl rfl rfl rfl ?_
  refine r_p (p_pick rfl rfl rfl (by first | exact pick_and | exact pick_or |  rfl)) rfl ?_
  refine r_nil ?_
  refine r_cond rfl (fun h2 => ?_) (fun h2 => ?_)
  · (try simp only [decide_eq_true_eq, decide_eq_false_iff_not, Bool.and_eq_true, Bool.or_eq_true, Bool.and_eq_false_iff, Bool.or_eq_false_iff, Bool.not_eq_true, Bool.not_eq_false, Bool.not_eq_true', Bool.not_eq_false', Bool.not_not, bne_iff_ne, beq_iff_eq] at h2)
    refine r_seq ?_
    refine r_region ?_
    refine r_p (p_assign rfl) rfl ?_
    refine r_nil ?_
    refine r_cret ?_
    refine r_ret () trivial rfl (rs1 (rv_tmp rfl)) rfl [0, 1, 2] [] rfl rfl rfl
  · exact absurd h2 (by simp)
set_option maxRecDepth 100000 in
theorem rsync_spec (r : Nat) (vo vn vh : SV) (off : Bool) (left : Int) (old new : List ByteArray) (has : List Bool) (h1 : new.length = old.length) (h2 : has.length = old.length) (hl : left < 9223372036854775808) (hlen : old.length ≤ 65536) :
    Spec Try.prog 22 [.pointer (some ⟨r, 0, none⟩)] [row r 44 (rC vo vn vh off left), own 9 1 eS (sv vo) old, own 4 1 eB (sv vh) has] [own 9 1 eS (sv vn) new] (X := Unit) (fun _ => True) (fun _ => .int .i64 (rsF off left old new has).e) (fun _ => [row r 44 (rC vo vn vh (rsF off left old new has).off (rsF off left old new has).left), own 9 1 eS (sv vo) (rsF off left old new has).old, own 4 1 eB (sv vh) (rsF off left old new has).has]) (fun _ => []) := by
  cases off with
  | true => exact rsync_offT r vo vn vh left old new has
  | false =>
    refine (rsync_on r vo vn vh left old new has h1 h2 hl hlen).mono fun l hl => ⟨(), trivial, ?_, ?_, rfl⟩
    · unfold rsF; cases flO false left <;> rfl
    · unfold rsF; cases flO false left <;> rfl
set_option maxHeartbeats 1000000 in
set_option maxRecDepth 100000 in
theorem rnew_spec (n : Int) :
    Spec Try.prog 17 [.int .i64 n] [] [] (X := Nat × SV × SV × SV) (fun _ => True) (fun x => .pointer (some ⟨x.1, 0, none⟩)) (fun x => [row x.1 44 (rC x.2.1 x.2.2.1 x.2.2.2 false (-1)), own 9 1 eS (sv x.2.1) (List.replicate (max 0 (min n 65536)).toNat zsec), own 9 1 eS (sv x.2.2.1) (List.replicate (max 0 (min n 65536)).toNat ByteArray.empty), own 4 1 eB (sv x.2.2.2) (List.replicate (max 0 (min n 65536)).toNat false)]) (fun _ => []) := by
  refine r_enter Try.func17 rfl Try.ntmps17 rfl fun w0 M H => ?_
  refine r_nilown 60 (α := ByteArray) (S := 9) (s := 1) (enc := eS) ?_
  obtain ⟨c, hc⟩ : ∃ c : Nat, max 0 (min n 65536) = (c : Int) := ⟨(max 0 (min n 65536)).toNat, by omega⟩
  have hcm : c ≤ 65536 := by omega
  refine r_seq ?_
  refine r_region ?_
  refine r_p (p_assign rfl) rfl ?_
  refine r_nil ?_
  refine r_seq ?_
  refine r_region ?_
  refine r_p (p_move rfl) rfl ?_
  refine r_p (p_min rfl rfl rfl) rfl ?_
  refine r_p (p_max rfl rfl rfl) rfl ?_
  refine r_p (p_assign rfl) rfl ?_
  refine r_nil ?_
  refine r_seq ?_
  refine r_draw [9, 10, 11, 12, 13, 14, 4] _ rfl (stg_alts (V := [(0, 9, _), (2, 11, _)]) [0, 2] rfl rfl (prs_cons (pri rfl (p_move rfl)) (prs_cons (pri rfl (p_move rfl)) prs_nil)) rfl [1, 3] rfl rfl (nx_cons (nx_mem 1 [1, 0] [] (fun v10 => []) rfl rfl rfl rfl rfl rfl rfl rfl rfl (fun _ _ => rfl) rfl (ms_makeN eB false Try.underlying42 t4 rfl rfl rfl rfl (c := c) hc hc (by omega) (by simp only [maxLen]; omega)) (fun v10 _ => stg_mem [2] 3 [3, 2, 1, 0] [4] (fun v12 => [(4, 13, _)]) rfl rfl (prs_cons (pri rfl (p_move rfl)) prs_nil) rfl rfl rfl rfl rfl rfl rfl rfl rfl rfl rfl (fun _ _ => rfl) rfl (ms_makeN eS ByteArray.empty Try.underlying41 t9 rfl rfl rfl rfl (c := c) hc hc (by omega) (by simp only [maxLen]; omega)) (fun v12 _ => stg_mem [4] 5 [5, 4, 3, 2, 1, 0] [6] (fun b14 => [(6, 4, _)]) rfl rfl (prs_cons (pri rfl (p_build (parts := [(4, .const (.int .i64 (-1))), (2, .tmp 10), (1, .tmp 12)]) t44 pl44 rfl rfl)) prs_nil) rfl rfl rfl rfl rfl rfl rfl rfl rfl rfl rfl (fun _ _ => rfl) rfl (ms_box rfl (by rfl)) (fun b14 _ => stg_end [6] rfl rfl (prs_cons (pri rfl (p_assign rfl)) prs_nil) rfl rfl rfl ?_)))) (nx_cons (nx_mem 3 [3, 2] [] (fun v12 => []) rfl rfl rfl rfl rfl rfl rfl rfl rfl (fun _ _ => rfl) rfl (ms_makeN eS ByteArray.empty Try.underlying41 t9 rfl rfl rfl rfl (c := c) hc hc (by omega) (by simp only [maxLen]; omega)) (fun v12 _ => stg_mem [0] 1 [3, 2, 1, 0] [4] (fun v10 => [(4, 13, _)]) rfl rfl (prs_cons (pri rfl (p_move rfl)) prs_nil) rfl rfl rfl rfl rfl rfl rfl rfl rfl rfl rfl (fun _ _ => rfl) rfl (ms_makeN eB false Try.underlying42 t4 rfl rfl rfl rfl (c := c) hc hc (by omega) (by simp only [maxLen]; omega)) (fun v10 _ => stg_mem [4] 5 [5, 4, 3, 2, 1, 0] [6] (fun b14 => [(6, 4, _)]) rfl rfl (prs_cons (pri rfl (p_build (parts := [(4, .const (.int .i64 (-1))), (2, .tmp 10), (1, .tmp 12)]) t44 pl44 rfl rfl)) prs_nil) rfl rfl rfl rfl rfl rfl rfl rfl rfl rfl rfl (fun _ _ => rfl) rfl (ms_box rfl (by rfl)) (fun b14 _ => stg_end [6] rfl rfl (prs_cons (pri rfl (p_assign rfl)) prs_nil) rfl rfl rfl ?_)))) nx_nil)))
  · refine r_seq ?_
    refine r_seq ?_
    refine r_region ?_
    refine r_p (p_assign rfl) rfl ?_
    refine r_nil ?_
    refine r_block ?_
    refine r_loop (X := Nat × SV) (fun x => x.1 ≤ c) (fun x => [(3, .int .i64 (c : Int)), (4, .pointer (some ⟨b14, 0, none⟩)), (5, .int .i64 (x.1 : Int))]) (fun x => [(14, row b14 44 (rC x.2 v12 v10 false (-1))), (60, own 9 1 eS (sv x.2) (List.replicate x.1 zsec)), (10, own 4 1 eB (sv v10) (List.replicate c false)), (12, own 9 1 eS (sv v12) (List.replicate c ByteArray.empty))]) (fun x => []) (fun x => c - x.1) (0, nilS) (Nat.zero_le _) (by show _ = _; rw [show max 0 (min n 65536) = (c : Int) from hc]; rfl) rfl rfl (fun x hk0 => ?_)
    obtain ⟨k, vk⟩ := x
    dsimp only at hk0 ⊢
    refine r_seq ?_
    refine r_seq ?_
    refine r_region ?_
    refine r_p (p_move rfl) rfl ?_
    refine r_p (p_move rfl) rfl ?_
    refine r_p (p_bin rfl rfl b_lt) rfl ?_
    refine r_nil ?_
    refine r_cond rfl (fun h1 => ?_) (fun h1 => ?_)
    · (try simp only [decide_eq_true_eq, decide_eq_false_iff_not, Bool.and_eq_true, Bool.or_eq_true, Bool.and_eq_false_iff, Bool.or_eq_false_iff, Bool.not_eq_true, Bool.not_eq_false, Bool.not_eq_true', Bool.not_eq_false', Bool.not_not, bne_iff_ne, beq_iff_eq] at h1)
      have hk : k < c := by omega
      refine r_skip ?_
      refine r_seq ?_
      refine r_block ?_
      refine r_draw [20, 21, 22, 23, 24, 25, 26, 27, 28, 29, 30] _ rfl (stg_mem (V := [(0, 20, _), (1, 21, _), (2, 22, _), (3, 23, _), (4, 24, _)]) [0, 1, 2, 3, 4] 5 [5] [6] (fun v25 => [(6, 26, _)]) rfl rfl (prs_cons (pri rfl (p_move rfl)) (prs_cons (pri rfl (p_move rfl)) (prs_cons (pri rfl (p_nilCheck rfl)) (prs_cons (pri rfl (p_field0 fo44_0 rfl)) (prs_cons (pri rfl (p_load1 t41 rfl rfl (g_row1 (k := 14) rfl rfl))) prs_nil))))) rfl rfl rfl rfl rfl rfl rfl rfl rfl rfl rfl (fun _ _ => rfl) rfl (ms_makeN eU8 (0 : Int) Try.underlying95 t5 rfl rfl rfl rfl (c := 64) rfl rfl (by omega) (by simp only [maxLen]; omega)) (fun v25 _ => stg_mem [6, 0, 1, 2, 3, 4] 7 [7, 6, 5] [] (fun v27 => []) rfl rfl (prs_cons (pri rfl (p_b2sE Try.underlying95 Try.underlying5 Try.underlying9 rfl (SlS.of (hs_own (k := 25) rfl)))) (prs_cons (pri rfl (p_move rfl)) (prs_cons (pri rfl (p_move rfl)) (prs_cons (pri rfl (p_nilCheck rfl)) (prs_cons (pri rfl (p_field0 fo44_0 rfl)) (prs_cons (pri rfl (p_load1 t41 rfl rfl (g_row1 (k := 14) rfl rfl))) prs_nil)))))) rfl rfl rfl rfl rfl rfl rfl rfl rfl rfl rfl (fun _ _ => rfl) rfl (ms_bslice1 eS _ Try.underlying41 t9 rfl (by decide) (by decide) rfl rfl rfl) (fun v27 _ => stg_mem [0, 1, 2, 3, 4] 8 [8, 7, 6, 5, 4, 3, 2, 1] [9, 10] (fun v28 => [(9, 29, _), (10, 30, _)]) rfl rfl (prs_cons (pri rfl (p_move rfl)) (prs_cons (pri rfl (p_move rfl)) (prs_cons (pri rfl (p_nilCheck rfl)) (prs_cons (pri rfl (p_field0 fo44_0 rfl)) (prs_cons (pri rfl (p_load1 t41 rfl rfl (g_row1 (k := 14) rfl rfl))) prs_nil))))) rfl rfl rfl rfl rfl rfl rfl rfl rfl rfl rfl (fun _ _ => rfl) rfl (ms_append 60 Try.underlying41 t9 rfl (by decide) (fun _ => rfl) (fun _ => rfl) rfl rfl rfl (hs_own (k := 27) rfl) (by simp only [List.length_replicate, List.length_cons, List.length_nil]; omega) (by unfold maxLen; simp only [List.length_replicate, List.length_cons, List.length_nil]; omega)) (fun v28 _ => stg_mem0 [9, 10, 0] 11 [11, 10, 9, 8, 7, 6, 5, 4, 3, 2, 1, 0] [] (fun _ => []) rfl rfl (prs_cons (pri rfl (p_nilCheck rfl)) (prs_cons (pri rfl (p_field0 fo44_0 rfl)) (prs_cons (pri rfl (p_move rfl)) prs_nil))) rfl rfl rfl rfl rfl rfl rfl rfl rfl (fun _ _ => rfl) rfl (ms_store_row (k := 14) t41 rfl rfl rfl rfl rfl rfl rfl rfl) (fun _ _ => stg_end [] rfl rfl prs_nil rfl rfl rfl ?_)))))
      refine r_region ?_
      refine r_p (p_move rfl) rfl ?_
      refine r_p (p_bin rfl rfl (b_add (by first | exact w_i64 (by omega) (by omega) | rfl))) rfl ?_
      refine r_p (p_assign rfl) rfl ?_
      refine r_nil ?_
      refine r_here (k + 1, v28) ⟨by dsimp only; omega, by dsimp only; omega⟩ rfl (by rw [show List.replicate (k + 1, v28).1 zsec = List.replicate k zsec ++ [zsec] from List.replicate_succ']; rfl) rfl
    · (try simp only [decide_eq_true_eq, decide_eq_false_iff_not, Bool.and_eq_true, Bool.or_eq_true, Bool.and_eq_false_iff, Bool.or_eq_false_iff, Bool.not_eq_true, Bool.not_eq_false, Bool.not_eq_true', Bool.not_eq_false', Bool.not_not, bne_iff_ne, beq_iff_eq] at h1)
      have hk : k = c := by omega
      subst hk
      refine r_exit ?_
      refine r_seq ?_
      refine r_region ?_
      refine r_p (p_move rfl) rfl ?_
      refine r_p (p_assign rfl) rfl ?_
      refine r_nil ?_
      refine r_cret ?_
      refine r_ret (b14, vk, v12, v10) trivial rfl (rs1 (rv_tmp rfl)) rfl [14, 60, 12, 10] [] rfl (by rw [hc]; rfl) rfl
  · refine r_seq ?_
    refine r_seq ?_
    refine r_region ?_
    refine r_p (p_assign rfl) rfl ?_
    refine r_nil ?_
    refine r_block ?_
    refine r_loop (X := Nat × SV) (fun x => x.1 ≤ c) (fun x => [(3, .int .i64 (c : Int)), (4, .pointer (some ⟨b14, 0, none⟩)), (5, .int .i64 (x.1 : Int))]) (fun x => [(14, row b14 44 (rC x.2 v12 v10 false (-1))), (60, own 9 1 eS (sv x.2) (List.replicate x.1 zsec)), (10, own 4 1 eB (sv v10) (List.replicate c false)), (12, own 9 1 eS (sv v12) (List.replicate c ByteArray.empty))]) (fun x => []) (fun x => c - x.1) (0, nilS) (Nat.zero_le _) (by show _ = _; rw [show max 0 (min n 65536) = (c : Int) from hc]; rfl) rfl rfl (fun x hk0 => ?_)
    obtain ⟨k, vk⟩ := x
    dsimp only at hk0 ⊢
    refine r_seq ?_
    refine r_seq ?_
    refine r_region ?_
    refine r_p (p_move rfl) rfl ?_
    refine r_p (p_move rfl) rfl ?_
    refine r_p (p_bin rfl rfl b_lt) rfl ?_
    refine r_nil ?_
    refine r_cond rfl (fun h2 => ?_) (fun h2 => ?_)
    · (try simp only [decide_eq_true_eq, decide_eq_false_iff_not, Bool.and_eq_true, Bool.or_eq_true, Bool.and_eq_false_iff, Bool.or_eq_false_iff, Bool.not_eq_true, Bool.not_eq_false, Bool.not_eq_true', Bool.not_eq_false', Bool.not_not, bne_iff_ne, beq_iff_eq] at h2)
      have hk : k < c := by omega
      refine r_skip ?_
      refine r_seq ?_
      refine r_block ?_
      refine r_draw [20, 21, 22, 23, 24, 25, 26, 27, 28, 29, 30] _ rfl (stg_mem (V := [(0, 20, _), (1, 21, _), (2, 22, _), (3, 23, _), (4, 24, _)]) [0, 1, 2, 3, 4] 5 [5] [6] (fun v25 => [(6, 26, _)]) rfl rfl (prs_cons (pri rfl (p_move rfl)) (prs_cons (pri rfl (p_move rfl)) (prs_cons (pri rfl (p_nilCheck rfl)) (prs_cons (pri rfl (p_field0 fo44_0 rfl)) (prs_cons (pri rfl (p_load1 t41 rfl rfl (g_row1 (k := 14) rfl rfl))) prs_nil))))) rfl rfl rfl rfl rfl rfl rfl rfl rfl rfl rfl (fun _ _ => rfl) rfl (ms_makeN eU8 (0 : Int) Try.underlying95 t5 rfl rfl rfl rfl (c := 64) rfl rfl (by omega) (by simp only [maxLen]; omega)) (fun v25 _ => stg_mem [6, 0, 1, 2, 3, 4] 7 [7, 6, 5] [] (fun v27 => []) rfl rfl (prs_cons (pri rfl (p_b2sE Try.underlying95 Try.underlying5 Try.underlying9 rfl (SlS.of (hs_own (k := 25) rfl)))) (prs_cons (pri rfl (p_move rfl)) (prs_cons (pri rfl (p_move rfl)) (prs_cons (pri rfl (p_nilCheck rfl)) (prs_cons (pri rfl (p_field0 fo44_0 rfl)) (prs_cons (pri rfl (p_load1 t41 rfl rfl (g_row1 (k := 14) rfl rfl))) prs_nil)))))) rfl rfl rfl rfl rfl rfl rfl rfl rfl rfl rfl (fun _ _ => rfl) rfl (ms_bslice1 eS _ Try.underlying41 t9 rfl (by decide) (by decide) rfl rfl rfl) (fun v27 _ => stg_mem [0, 1, 2, 3, 4] 8 [8, 7, 6, 5, 4, 3, 2, 1] [9, 10] (fun v28 => [(9, 29, _), (10, 30, _)]) rfl rfl (prs_cons (pri rfl (p_move rfl)) (prs_cons (pri rfl (p_move rfl)) (prs_cons (pri rfl (p_nilCheck rfl)) (prs_cons (pri rfl (p_field0 fo44_0 rfl)) (prs_cons (pri rfl (p_load1 t41 rfl rfl (g_row1 (k := 14) rfl rfl))) prs_nil))))) rfl rfl rfl rfl rfl rfl rfl rfl rfl rfl rfl (fun _ _ => rfl) rfl (ms_append 60 Try.underlying41 t9 rfl (by decide) (fun _ => rfl) (fun _ => rfl) rfl rfl rfl (hs_own (k := 27) rfl) (by simp only [List.length_replicate, List.length_cons, List.length_nil]; omega) (by unfold maxLen; simp only [List.length_replicate, List.length_cons, List.length_nil]; omega)) (fun v28 _ => stg_mem0 [9, 10, 0] 11 [11, 10, 9, 8, 7, 6, 5, 4, 3, 2, 1, 0] [] (fun _ => []) rfl rfl (prs_cons (pri rfl (p_nilCheck rfl)) (prs_cons (pri rfl (p_field0 fo44_0 rfl)) (prs_cons (pri rfl (p_move rfl)) prs_nil))) rfl rfl rfl rfl rfl rfl rfl rfl rfl (fun _ _ => rfl) rfl (ms_store_row (k := 14) t41 rfl rfl rfl rfl rfl rfl rfl rfl) (fun _ _ => stg_end [] rfl rfl prs_nil rfl rfl rfl ?_)))))
      refine r_region ?_
      refine r_p (p_move rfl) rfl ?_
      refine r_p (p_bin rfl rfl (b_add (by first | exact w_i64 (by omega) (by omega) | rfl))) rfl ?_
      refine r_p (p_assign rfl) rfl ?_
      refine r_nil ?_
      refine r_here (k + 1, v28) ⟨by dsimp only; omega, by dsimp only; omega⟩ rfl (by rw [show List.replicate (k + 1, v28).1 zsec = List.replicate k zsec ++ [zsec] from List.replicate_succ']; rfl) rfl
    · (try simp only [decide_eq_true_eq, decide_eq_false_iff_not, Bool.and_eq_true, Bool.or_eq_true, Bool.and_eq_false_iff, Bool.or_eq_false_iff, Bool.not_eq_true, Bool.not_eq_false, Bool.not_eq_true', Bool.not_eq_false', Bool.not_not, bne_iff_ne, beq_iff_eq] at h2)
      have hk : k = c := by omega
      subst hk
      refine r_exit ?_
      refine r_seq ?_
      refine r_region ?_
      refine r_p (p_move rfl) rfl ?_
      refine r_p (p_assign rfl) rfl ?_
      refine r_nil ?_
      refine r_cret ?_
      refine r_ret (b14, vk, v12, v10) trivial rfl (rs1 (rv_tmp rfl)) rfl [14, 60, 12, 10] [] rfl (by rw [hc]; rfl) rfl

end Go.Proofs.Ytohenjmkhncoiaa
