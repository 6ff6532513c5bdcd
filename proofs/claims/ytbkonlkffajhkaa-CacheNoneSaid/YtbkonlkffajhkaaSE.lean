/-
  The stable sort of blocks, by whatever comparison. Condition: at most a thousand.
-/
import Derived.Test.YtbkonlkffajhkaaP1
namespace Go.Proofs.Ytbkonlkffajhkaa
set_option linter.unusedSimpArgs false
set_option linter.unusedVariables false
open Go.RowKit

section
variable {nf : Nat} {caps : List Value} {A Bro : Asn} {p : En → Prop} {less : En → En → Bool}
set_option maxRecDepth 100000 in
theorem swapr_specE (v : SV) (xs : List En) (a b n : Nat) (ha : a + n ≤ xs.length) (hb : b + n ≤ xs.length) (hl : xs.length ≤ 1000) :
    Spec Try.prog 108 [sv v, .int .i64 (a : Int), .int .i64 (b : Int), .int .i64 (n : Int), .func (.func nf) #[] caps.toArray] [own 54 36 eEnt (sv v) xs, A] [Bro] (X := Unit) (fun _ => True) (fun _ => .tuple #[]) (fun _ => [own 54 36 eEnt (sv v) (swapR dE xs a b n 0), A]) (fun _ => []) := by
  refine r_enter Try.func108 rfl Try.ntmps108 rfl fun w0 M H => ?_
  refine r_seq ?_
  refine r_region ?_
  refine r_p (p_assign rfl) rfl ?_
  refine r_nil ?_
  refine r_block ?_
  refine r_loop (X := Nat × List En) (fun x => x.1 ≤ n ∧ x.2.length = xs.length ∧ swapR dE x.2 a b (n - x.1) x.1 = swapR dE xs a b n 0) (fun x => [(0, sv v), (1, .int .i64 (a : Int)), (2, .int .i64 (b : Int)), (3, .int .i64 (n : Int)), (10, .int .i64 (x.1 : Int))]) (fun x => [(0, own 54 36 eEnt (sv v) x.2), (1, A)]) (fun x => [(0, Bro)]) (fun x => n - x.1) (0, xs) ⟨by simp, rfl, rfl⟩ rfl rfl rfl (fun ⟨i, ys⟩ hx => ?_)
  obtain ⟨hi, hy, hs⟩ := hx
  dsimp only at hi hy hs ⊢
  refine r_seq ?_
  refine r_seq ?_
  refine r_region ?_
  refine r_p (p_move rfl) rfl ?_
  refine r_p (p_move rfl) rfl ?_
  refine r_p (p_bin rfl rfl b_lt) rfl ?_
  refine r_nil ?_
  refine r_cond rfl (fun h1 => ?_) (fun h1 => ?_)
  · (try simp only [decide_eq_true_eq, decide_eq_false_iff_not, Bool.and_eq_true, Bool.or_eq_true, Bool.and_eq_false_iff, Bool.or_eq_false_iff, Bool.not_eq_true, Bool.not_eq_false, Bool.not_eq_true', Bool.not_eq_false', Bool.not_not, bne_iff_ne, beq_iff_eq] at h1)
    have hin : i < n := by omega
    refine r_skip ?_
    refine r_seq ?_
    refine r_block ?_
    refine r_drawM [0, 1, 2, 3, 4, 5, 6, 7, 8, 9, 10, 11, 12, 13, 14, 15, 16, 17, 18, 19, 20, 21, 22, 23] [0, 1, 2, 3, 18, 19, 20, 21, 4, 5, 6, 7, 8, 9, 10, 11, 12, 13, 14, 15, 16, 17, 22, 23] [16, 17, 18, 19, 20, 21, 22, 23, 24, 25, 26, 27, 28, 29, 30, 31, 32, 33, 34, 35, 36, 37] _ rfl rfl rfl (stg_mem0 (V := [(0, 16, _), (1, 17, _), (2, 18, _), (3, 19, _), (4, 20, _), (5, 21, _), (6, 22, _), (7, 23, _), (8, 24, _), (9, 25, _), (10, 26, _), (11, 27, _), (12, 28, _), (13, 29, _), (14, 30, _), (15, 31, _), (16, 32, _), (17, 33, _), (18, 34, _), (19, 35, _), (20, 36, _)]) [0, 1, 2, 3, 4, 5, 6, 7, 8, 9, 10, 11, 12, 13, 14, 15, 16, 17, 18, 19, 20] 21 [21, 20, 19, 18, 17, 16, 15, 14, 13, 12, 11, 10, 9, 8, 3, 2, 1, 0] [22] (fun _ => [(22, 37, _)]) rfl rfl (prs_cons (pri rfl (p_move rfl)) (prs_cons (pri rfl (p_move rfl)) (prs_cons (pri rfl (p_move rfl)) (prs_cons (pri rfl (p_bin rfl rfl (b_add (by first | exact w_i64 (by omega) (by omega) | rfl)))) (prs_cons (pri rfl (p_move rfl)) (prs_cons (pri rfl (p_move rfl)) (prs_cons (pri rfl (p_move rfl)) (prs_cons (pri rfl (p_bin rfl rfl (b_add (by first | exact w_i64 (by omega) (by omega) | rfl)))) (prs_cons (pri rfl (p_move rfl)) (prs_cons (pri rfl (p_move rfl)) (prs_cons (pri rfl (p_move rfl)) (prs_cons (pri rfl (p_bin rfl rfl (b_add (by first | exact w_i64 (by omega) (by omega) | rfl)))) (prs_cons (pri rfl (p_idx_sl (j := b + i) Try.underlying39 t54 rfl rfl (hs_own (k := 0) rfl) (by omega) (by first | omega | (simp; omega)))) (prs_cons (pri rfl (p_loadA t54 rfl rfl rfl (g_el' (hs_own (k := 0) rfl) (by intro _; rfl) (getD_get dE (by first | omega | (simp; omega))) (by rfl)))) (prs_cons (pri rfl (p_move rfl)) (prs_cons (pri rfl (p_move rfl)) (prs_cons (pri rfl (p_move rfl)) (prs_cons (pri rfl (p_bin rfl rfl (b_add (by first | exact w_i64 (by omega) (by omega) | rfl)))) (prs_cons (pri rfl (p_idx_sl (j := a + i) Try.underlying39 t54 rfl rfl (hs_own (k := 0) rfl) (by omega) (by first | omega | (simp; omega)))) (prs_cons (pri rfl (p_loadA t54 rfl rfl rfl (g_el' (hs_own (k := 0) rfl) (by intro _; rfl) (getD_get dE (by first | omega | (simp; omega))) (by rfl)))) (prs_cons (pri rfl (p_idx_sl (j := a + i) Try.underlying39 t54 rfl rfl (hs_own (k := 0) rfl) (by omega) (by first | omega | (simp; omega)))) prs_nil))))))))))))))))))))) rfl rfl rfl rfl rfl rfl rfl rfl rfl (fun _ _ => rfl) rfl (ms_store_el (k := 0) t54 rfl rfl rfl (by intro _; rfl) (getD_get dE (by first | omega | (simp; omega))) rfl rfl) (fun _ _ => stg_mem0 [22, 4, 5, 6, 7] 23 [23, 22, 21, 20, 19, 18, 17, 16, 15, 14, 13, 12, 11, 10, 9, 8, 7, 6, 5, 4, 3, 2, 1, 0] [] (fun _ => []) rfl rfl (prs_cons (pri rfl (p_idx_sl (j := b + i) Try.underlying39 t54 rfl rfl (hs_own (k := 0) rfl) (by omega) (by first | omega | (simp; omega)))) (prs_cons (pri rfl (p_move rfl)) (prs_cons (pri rfl (p_move rfl)) (prs_cons (pri rfl (p_move rfl)) (prs_cons (pri rfl (p_bin rfl rfl (b_add (by first | exact w_i64 (by omega) (by omega) | rfl)))) prs_nil))))) rfl rfl rfl rfl rfl rfl rfl rfl rfl (fun _ _ => rfl) rfl (ms_store_el (k := 0) t54 rfl rfl rfl (by intro _; rfl) (getD_get dE (by first | omega | (simp; omega))) rfl rfl) (fun _ _ => stg_end [] rfl rfl prs_nil rfl rfl rfl ?_)))
    refine r_region ?_
    refine r_p (p_move rfl) rfl ?_
    refine r_p (p_bin rfl rfl (b_add (by first | exact w_i64 (by omega) (by omega) | rfl))) rfl ?_
    refine r_p (p_assign rfl) rfl ?_
    refine r_nil ?_
    refine r_here (i + 1, sw dE ys (a + i) (b + i)) ⟨⟨by dsimp only; omega, by simp [sw_len, hy], by dsimp only; rw [← hs, show n - i = (n - (i + 1)) + 1 by omega, swapR]⟩, by dsimp only; omega⟩ rfl rfl rfl
  · (try simp only [decide_eq_true_eq, decide_eq_false_iff_not, Bool.and_eq_true, Bool.or_eq_true, Bool.and_eq_false_iff, Bool.or_eq_false_iff, Bool.not_eq_true, Bool.not_eq_false, Bool.not_eq_true', Bool.not_eq_false', Bool.not_not, bne_iff_ne, beq_iff_eq] at h1)
    have hin : n - i = 0 := by omega
    rw [hin, swapR] at hs
    refine r_exit ?_
    refine r_end () trivial rfl rs0 rfl [0, 1] [] rfl ?_ rfl
    rw [← hs]
    rfl
theorem swapr_iE (v : SV) (xs : List En) (a b n : Int) (h0a : 0 ≤ a) (h0b : 0 ≤ b) (h0n : 0 ≤ n) (ha : a + n ≤ xs.length) (hb : b + n ≤ xs.length) (hl : xs.length ≤ 1000) :
    Spec Try.prog 108 [sv v, .int .i64 a, .int .i64 b, .int .i64 n, .func (.func nf) #[] caps.toArray] [own 54 36 eEnt (sv v) xs, A] [Bro] (X := Unit) (fun _ => True) (fun _ => .tuple #[]) (fun _ => [own 54 36 eEnt (sv v) (swapR dE xs a.toNat b.toNat n.toNat 0), A]) (fun _ => []) := by
  obtain ⟨a, rfl⟩ := Int.eq_ofNat_of_zero_le h0a
  obtain ⟨b, rfl⟩ := Int.eq_ofNat_of_zero_le h0b
  obtain ⟨n, rfl⟩ := Int.eq_ofNat_of_zero_le h0n
  have h := swapr_specE (nf := nf) (caps := caps) (A := A) (Bro := Bro) v xs a b n (by omega) (by omega) hl 
  simp only [Int.toNat_natCast] at *
  exact h

set_option maxRecDepth 100000 in
theorem rot_specE (v : SV) (xs : List En) (a m b : Nat) (ha : a < m) (hb : m < b) (hbl : b ≤ xs.length) (hl : xs.length ≤ 1000) :
    Spec Try.prog 106 [sv v, .int .i64 (a : Int), .int .i64 (m : Int), .int .i64 (b : Int), .func (.func nf) #[] caps.toArray] [own 54 36 eEnt (sv v) xs, A] [Bro] (X := Unit) (fun _ => True) (fun _ => .tuple #[]) (fun _ => [own 54 36 eEnt (sv v) (rot dE (b - a) xs m (m - a) (b - m)), A]) (fun _ => []) := by
  refine r_enter Try.func106 rfl Try.ntmps106 rfl fun w0 M H => ?_
  refine r_seq ?_
  refine r_region ?_
  refine r_p (p_move rfl) rfl ?_
  refine r_p (p_move rfl) rfl ?_
  refine r_p (p_bin rfl rfl (b_sub (by first | exact w_i64 (by omega) (by omega) | rfl))) rfl ?_
  refine r_p (p_assign rfl) rfl ?_
  refine r_nil ?_
  refine r_seq ?_
  refine r_region ?_
  refine r_p (p_move rfl) rfl ?_
  refine r_p (p_move rfl) rfl ?_
  refine r_p (p_bin rfl rfl (b_sub (by first | exact w_i64 (by omega) (by omega) | rfl))) rfl ?_
  refine r_p (p_assign rfl) rfl ?_
  refine r_nil ?_
  refine r_seq ?_
  refine r_block ?_
  refine r_loop (X := Nat × Nat × List En) (fun x => 1 ≤ x.1 ∧ 1 ≤ x.2.1 ∧ x.1 ≤ m - a ∧ x.2.1 ≤ b - m ∧ x.2.2.length = xs.length ∧ ∃ f, x.1 + x.2.1 ≤ f + 1 ∧ rot dE (f + 1) x.2.2 m x.1 x.2.1 = rot dE (b - a) xs m (m - a) (b - m)) (fun x => [(0, sv v), (2, .int .i64 (m : Int)), (4, .func (.func nf) #[] caps.toArray), (10, .int .i64 (x.1 : Int)), (11, .int .i64 (x.2.1 : Int))]) (fun x => [(0, own 54 36 eEnt (sv v) x.2.2), (1, A)]) (fun x => [(0, Bro)]) (fun x => x.1 + x.2.1) (m - a, b - m, xs) ⟨by dsimp only; omega, by dsimp only; omega, Nat.le_refl _, Nat.le_refl _, rfl, b - a - 1, by dsimp only; omega, by rw [show b - a - 1 + 1 = b - a by omega]⟩ (by rw [show ((m - a : Nat) : Int) = m - a by omega, show ((b - m : Nat) : Int) = b - m by omega]; rfl) rfl rfl (fun ⟨i, j, ys⟩ hx => ?_)
  obtain ⟨hi, hj, him, hjb, hy, f, hf, hr⟩ := hx
  dsimp only at hi hj him hjb hy hf hr ⊢
  refine r_seq ?_
  refine r_seq ?_
  refine r_region ?_
  refine r_p (p_move rfl) rfl ?_
  refine r_p (p_move rfl) rfl ?_
  refine r_p (p_bin rfl rfl b_ne) rfl ?_
  refine r_nil ?_
  refine r_cond rfl (fun h1 => ?_) (fun h1 => ?_)
  · (try simp only [decide_eq_true_eq, decide_eq_false_iff_not, Bool.and_eq_true, Bool.or_eq_true, Bool.and_eq_false_iff, Bool.or_eq_false_iff, Bool.not_eq_true, Bool.not_eq_false, Bool.not_eq_true', Bool.not_eq_false', Bool.not_not, bne_iff_ne, beq_iff_eq] at h1)
    have hne : i ≠ j := by omega
    refine r_skip ?_
    refine r_block ?_
    refine r_seq ?_
    refine r_region ?_
    refine r_p (p_move rfl) rfl ?_
    refine r_p (p_move rfl) rfl ?_
    refine r_p (p_bin rfl rfl b_gt) rfl ?_
    refine r_nil ?_
    refine r_cond rfl (fun h2 => ?_) (fun h2 => ?_)
    · (try simp only [decide_eq_true_eq, decide_eq_false_iff_not, Bool.and_eq_true, Bool.or_eq_true, Bool.and_eq_false_iff, Bool.or_eq_false_iff, Bool.not_eq_true, Bool.not_eq_false, Bool.not_eq_true', Bool.not_eq_false', Bool.not_not, bne_iff_ne, beq_iff_eq] at h2)
      refine r_seq ?_
      refine r_region ?_
      refine r_p (p_move rfl) rfl ?_
      refine r_p (p_move rfl) rfl ?_
      refine r_p (p_move rfl) rfl ?_
      refine r_p (p_bin rfl rfl (b_sub (by first | exact w_i64 (by omega) (by omega) | rfl))) rfl ?_
      refine r_p (p_move rfl) rfl ?_
      refine r_p (p_move rfl) rfl ?_
      refine r_p (p_move rfl) rfl ?_
      refine r_call (xs := [.tmp 24, .tmp 27, .tmp 28, .tmp 29, .tmp 30]) (swapr_iE v ys (m - i) m j (by omega) (by omega) (by omega) (by omega) (by omega) (by omega)) cb108 [0, 1] [(false, 0)] [0, 1] [] rfl rfl rfl rfl rfl rfl rfl rfl (fun _ _ => rfl) (fun _ _ _ => rfl) rfl (fun _ _ => ?_)
      refine r_nil ?_
      refine r_region ?_
      refine r_p (p_move rfl) rfl ?_
      refine r_p (p_move rfl) rfl ?_
      refine r_p (p_bin rfl rfl (b_sub (by first | exact w_i64 (by omega) (by omega) | rfl))) rfl ?_
      refine r_p (p_assign rfl) rfl ?_
      refine r_nil ?_
      refine r_here (i - j, j, _) ⟨⟨by dsimp only; omega, by dsimp only; omega, by dsimp only; omega, by dsimp only; omega, ?_, ?_⟩, by dsimp only; omega⟩ (by rw [show ((i - j : Nat) : Int) = i - j by omega]; rfl) rfl rfl
      · simp only [swapR_len, hy]
      · refine ⟨f - 1, by dsimp only; omega, ?_⟩
        dsimp only
        rw [← hr, rot_gt dE (f := f) (xs := ys) (i := i) (j := j) (by omega), show f - 1 + 1 = f by omega, show ((m : Int) - i).toNat = m - i by omega]
        rfl
    · (try simp only [decide_eq_true_eq, decide_eq_false_iff_not, Bool.and_eq_true, Bool.or_eq_true, Bool.and_eq_false_iff, Bool.or_eq_false_iff, Bool.not_eq_true, Bool.not_eq_false, Bool.not_eq_true', Bool.not_eq_false', Bool.not_not, bne_iff_ne, beq_iff_eq] at h2)
      refine r_seq ?_
      refine r_region ?_
      refine r_p (p_move rfl) rfl ?_
      refine r_p (p_move rfl) rfl ?_
      refine r_p (p_move rfl) rfl ?_
      refine r_p (p_bin rfl rfl (b_sub (by first | exact w_i64 (by omega) (by omega) | rfl))) rfl ?_
      refine r_p (p_move rfl) rfl ?_
      refine r_p (p_move rfl) rfl ?_
      refine r_p (p_bin rfl rfl (b_add (by first | exact w_i64 (by omega) (by omega) | rfl))) rfl ?_
      refine r_p (p_move rfl) rfl ?_
      refine r_p (p_bin rfl rfl (b_sub (by first | exact w_i64 (by omega) (by omega) | rfl))) rfl ?_
      refine r_p (p_move rfl) rfl ?_
      refine r_p (p_move rfl) rfl ?_
      refine r_call (xs := [.tmp 35, .tmp 38, .tmp 43, .tmp 44, .tmp 45]) (swapr_iE v ys (m - i) (m + j - i) i (by omega) (by omega) (by omega) (by omega) (by omega) (by omega)) cb108 [0, 1] [(false, 0)] [0, 1] [] rfl rfl rfl rfl rfl rfl rfl rfl (fun _ _ => rfl) (fun _ _ _ => rfl) rfl (fun _ _ => ?_)
      refine r_nil ?_
      refine r_region ?_
      refine r_p (p_move rfl) rfl ?_
      refine r_p (p_move rfl) rfl ?_
      refine r_p (p_bin rfl rfl (b_sub (by first | exact w_i64 (by omega) (by omega) | rfl))) rfl ?_
      refine r_p (p_assign rfl) rfl ?_
      refine r_nil ?_
      refine r_here (i, j - i, _) ⟨⟨by dsimp only; omega, by dsimp only; omega, by dsimp only; omega, by dsimp only; omega, ?_, ?_⟩, by dsimp only; omega⟩ (by rw [show ((j - i : Nat) : Int) = j - i by omega]; rfl) rfl rfl
      · simp only [swapR_len, hy]
      · refine ⟨f - 1, by dsimp only; omega, ?_⟩
        dsimp only
        rw [← hr, rot_lt dE (f := f) (xs := ys) (i := i) (j := j) (by omega), show f - 1 + 1 = f by omega, show ((m : Int) - i).toNat = m - i by omega, show ((m : Int) + j - i).toNat = m + j - i by omega]
        rfl
  · (try simp only [decide_eq_true_eq, decide_eq_false_iff_not, Bool.and_eq_true, Bool.or_eq_true, Bool.and_eq_false_iff, Bool.or_eq_false_iff, Bool.not_eq_true, Bool.not_eq_false, Bool.not_eq_true', Bool.not_eq_false', Bool.not_not, bne_iff_ne, beq_iff_eq] at h1)
    have hij : i = j := by omega
    refine r_exit ?_
    refine r_region ?_
    refine r_p (p_move rfl) rfl ?_
    refine r_p (p_move rfl) rfl ?_
    refine r_p (p_move rfl) rfl ?_
    refine r_p (p_bin rfl rfl (b_sub (by first | exact w_i64 (by omega) (by omega) | rfl))) rfl ?_
    refine r_p (p_move rfl) rfl ?_
    refine r_p (p_move rfl) rfl ?_
    refine r_p (p_move rfl) rfl ?_
    refine r_call (xs := [.tmp 50, .tmp 53, .tmp 54, .tmp 55, .tmp 56]) (swapr_iE v ys (m - i) m i (by omega) (by omega) (by omega) (by omega) (by omega) (by omega)) cb108 [0, 1] [(false, 0)] [0, 1] [] rfl rfl rfl rfl rfl rfl rfl rfl (fun _ _ => rfl) (fun _ _ _ => rfl) rfl (fun _ _ => ?_)
    refine r_nil ?_
    refine r_end () trivial rfl rs0 rfl [0, 1] [] rfl ?_ rfl
    rw [← hr, rot_eq dE hij, show ((m : Int) - i).toNat = m - i by omega]
    rfl
theorem rot_iE (v : SV) (xs : List En) (a m b : Int) (h0a : 0 ≤ a) (h0m : 0 ≤ m) (h0b : 0 ≤ b) (ha : a < m) (hb : m < b) (hbl : b ≤ xs.length) (hl : xs.length ≤ 1000) :
    Spec Try.prog 106 [sv v, .int .i64 a, .int .i64 m, .int .i64 b, .func (.func nf) #[] caps.toArray] [own 54 36 eEnt (sv v) xs, A] [Bro] (X := Unit) (fun _ => True) (fun _ => .tuple #[]) (fun _ => [own 54 36 eEnt (sv v) (rot dE (b - a).toNat xs m.toNat (m - a).toNat (b - m).toNat), A]) (fun _ => []) := by
  obtain ⟨a, rfl⟩ := Int.eq_ofNat_of_zero_le h0a
  obtain ⟨m, rfl⟩ := Int.eq_ofNat_of_zero_le h0m
  obtain ⟨b, rfl⟩ := Int.eq_ofNat_of_zero_le h0b
  have h := rot_specE (nf := nf) (caps := caps) (A := A) (Bro := Bro) v xs a m b (by omega) (by omega) (by omega) hl 
  simp only [Int.toNat_natCast] at *
  rw [show ((b : Int) - a).toNat = b - a by omega, show ((m : Int) - a).toNat = m - a by omega, show ((b : Int) - m).toNat = b - m by omega]
  exact h

set_option maxRecDepth 100000 in
theorem ins_specE (v : SV) (xs : List En) (a b : Nat) (hv : InP p xs) (ha : a ≤ b) (hbl : b ≤ xs.length) (hl : xs.length ≤ 1000)(hc : CmpOk nf caps A Bro veEnt p dE less) :
    Spec Try.prog 101 [sv v, .int .i64 (a : Int), .int .i64 (b : Int), .func (.func nf) #[] caps.toArray] [own 54 36 eEnt (sv v) xs, A] [Bro] (X := Unit) (fun _ => True) (fun _ => .tuple #[]) (fun _ => [own 54 36 eEnt (sv v) (insSort dE less xs a b), A]) (fun _ => []) := by
  refine r_enter Try.func101 rfl Try.ntmps101 rfl fun w0 M H => ?_
  refine r_seq ?_
  refine r_region ?_
  refine r_p (p_move rfl) rfl ?_
  refine r_p (p_bin rfl rfl (b_add (by first | exact w_i64 (by omega) (by omega) | rfl))) rfl ?_
  refine r_p (p_assign rfl) rfl ?_
  refine r_nil ?_
  refine r_block ?_
  refine r_loop (X := Nat × List En) (fun x => a + 1 ≤ x.1 ∧ (x.1 ≤ b ∨ b = a) ∧ x.2.length = xs.length ∧ InP p x.2 ∧ insOut dE less a (b - x.1) x.1 x.2 = insSort dE less xs a b) (fun x => [(0, sv v), (1, .int .i64 (a : Int)), (2, .int .i64 (b : Int)), (3, .func (.func nf) #[] caps.toArray), (8, .int .i64 (x.1 : Int))]) (fun x => [(0, own 54 36 eEnt (sv v) x.2), (1, A)]) (fun x => [(0, Bro)]) (fun x => b - x.1) (a + 1, xs) ⟨by dsimp only; omega, by dsimp only; omega, rfl, hv, rfl⟩ rfl rfl rfl (fun ⟨i, ys⟩ hx => ?_)
  obtain ⟨hi, hib, hy, hv1, hr⟩ := hx
  dsimp only at hi hib hy hv1 hr ⊢
  refine r_seq ?_
  refine r_seq ?_
  refine r_region ?_
  refine r_p (p_move rfl) rfl ?_
  refine r_p (p_move rfl) rfl ?_
  refine r_p (p_bin rfl rfl b_lt) rfl ?_
  refine r_nil ?_
  refine r_cond rfl (fun h1 => ?_) (fun h1 => ?_)
  · (try simp only [decide_eq_true_eq, decide_eq_false_iff_not, Bool.and_eq_true, Bool.or_eq_true, Bool.and_eq_false_iff, Bool.or_eq_false_iff, Bool.not_eq_true, Bool.not_eq_false, Bool.not_eq_true', Bool.not_eq_false', Bool.not_not, bne_iff_ne, beq_iff_eq] at h1)
    have hilt : i < b := by omega
    refine r_skip ?_
    refine r_seq ?_
    refine r_block ?_
    refine r_seq ?_
    refine r_region ?_
    refine r_p (p_move rfl) rfl ?_
    refine r_p (p_assign rfl) rfl ?_
    refine r_nil ?_
    refine r_block ?_
    refine r_loop (X := Nat × List En) (fun x => a ≤ x.1 ∧ x.1 ≤ i ∧ x.2.length = xs.length ∧ InP p x.2 ∧ insIn dE less a x.1 x.2 = insIn dE less a i ys) (fun x => [(0, sv v), (1, .int .i64 (a : Int)), (2, .int .i64 (b : Int)), (3, .func (.func nf) #[] caps.toArray), (8, .int .i64 (i : Int)), (9, .int .i64 (x.1 : Int))]) (fun x => [(0, own 54 36 eEnt (sv v) x.2), (1, A)]) (fun x => [(0, Bro)]) (fun x => x.1) (i, ys) ⟨by dsimp only; omega, Nat.le_refl _, hy, hv1, rfl⟩ rfl rfl rfl (fun ⟨j, zs⟩ hx2 => ?_)
    obtain ⟨hj, hji, hz, hv2, hin⟩ := hx2
    dsimp only at hj hji hz hv2 hin ⊢
    refine r_seq ?_
    refine r_seq ?_
    by_cases h2 : a < j
    · refine r_draw [18, 19, 20, 21, 22, 23, 24, 25, 26, 27, 28, 29, 30, 31, 32, 33, 34] _ rfl (stg_memg (V := [(0, 18, _), (1, 19, _), (2, 20, _), (3, 21, _), (4, 22, _), (5, 23, _), (6, 24, _), (7, 25, _), (8, 26, _), (9, 27, _), (10, 28, _), (11, 29, _), (12, 30, _), (13, 31, _)]) [0, 1, 2, 3, 4, 5, 6, 7, 8, 9, 10, 11, 12, 13] 14 [14, 13, 12, 11, 10, 9, 8, 7, 6, 5, 4, 3, 2, 1, 0] [15, 16] (fun x32 => [(15, 33, _), (16, 34, _)]) rfl rfl (prs_cons (pri rfl (p_move rfl)) (prs_cons (pri rfl (p_move rfl)) (prs_cons (pri rfl (p_bin rfl rfl b_gt)) (prs_cons (pri rfl (p_move rfl)) (prs_cons (prig_y rfl rfl rfl (decide_eq_true (by omega)) (p_move rfl)) (prs_cons (prig_y rfl rfl rfl (decide_eq_true (by omega)) (p_move rfl)) (prs_cons (prig_y rfl rfl rfl (decide_eq_true (by omega)) (p_move rfl)) (prs_cons (prig_y rfl rfl rfl (decide_eq_true (by omega)) (p_idx_sl (j := j) Try.underlying39 t54 rfl rfl (hs_own (k := 0) rfl) (by omega) (by first | omega | (simp; omega)))) (prs_cons (prig_y rfl rfl rfl (decide_eq_true (by omega)) (p_loadA t54 rfl rfl rfl (g_el' (hs_own (k := 0) rfl) (by intro _; rfl) (getD_get dE (by first | omega | (simp; omega))) (by rfl)))) (prs_cons (prig_y rfl rfl rfl (decide_eq_true (by omega)) (p_move rfl)) (prs_cons (prig_y rfl rfl rfl (decide_eq_true (by omega)) (p_move rfl)) (prs_cons (prig_y rfl rfl rfl (decide_eq_true (by omega)) (p_bin rfl rfl (b_sub (by first | exact w_i64 (by omega) (by omega) | rfl)))) (prs_cons (prig_y rfl rfl rfl (decide_eq_true (by omega)) (p_idx_sl (j := (j - 1)) Try.underlying39 t54 rfl rfl (hs_own (k := 0) rfl) (by omega) (by first | omega | (simp; omega)))) (prs_cons (prig_y rfl rfl rfl (decide_eq_true (by omega)) (p_loadA t54 rfl rfl rfl (g_el' (hs_own (k := 0) rfl) (by intro _; rfl) (getD_get dE (by first | omega | (simp; omega))) (by rfl)))) prs_nil)))))))))))))) rfl rfl rfl rfl rfl (decide_eq_true (by omega)) rfl rfl rfl rfl rfl rfl (fun _ _ => rfl) rfl (ms_call (xs := [.tmp 26, .tmp 31]) (hc.run _ _ (hv2.get (by omega)) (hv2.get (by omega))) hc.cb [1] [(false, 0)] [1] [] rfl rfl rfl rfl rfl rfl rfl rfl (fun _ _ => rfl) (fun _ _ _ => rfl)) (fun x32 hx32 => stg_end [15, 16] rfl rfl (prs_cons (prig_y rfl rfl rfl (decide_eq_true (by omega)) (p_bin rfl rfl b_lt)) (prs_cons (pri rfl (p_pick rfl rfl rfl (pick_t (decide_eq_true (by omega))))) prs_nil)) rfl rfl rfl ?_))
      refine r_cond rfl (fun h3 => ?_) (fun h3 => ?_)
      · (try simp only [decide_eq_true_eq, decide_eq_false_iff_not, Bool.and_eq_true, Bool.or_eq_true, Bool.and_eq_false_iff, Bool.or_eq_false_iff, Bool.not_eq_true, Bool.not_eq_false, Bool.not_eq_true', Bool.not_eq_false', Bool.not_not, bne_iff_ne, beq_iff_eq] at h3)
        have hless : less (zs.getD j dE) (zs.getD (j - 1) dE) = true := hx32.1 (by omega)
        refine r_skip ?_
        refine r_seq ?_
        refine r_block ?_
        refine r_drawM [0, 1, 2, 3, 4, 5, 6, 7, 8, 9, 10, 11, 12, 13, 14, 15, 16, 17] [0, 1, 13, 14, 15, 2, 3, 4, 5, 6, 7, 8, 9, 10, 11, 12, 16, 17] [37, 38, 39, 40, 41, 42, 43, 44, 45, 46, 47, 48, 49, 50, 51, 52] _ rfl rfl rfl (stg_mem0 (V := [(0, 37, _), (1, 38, _), (2, 39, _), (3, 40, _), (4, 41, _), (5, 42, _), (6, 43, _), (7, 44, _), (8, 45, _), (9, 46, _), (10, 47, _), (11, 48, _), (12, 49, _), (13, 50, _), (14, 51, _)]) [0, 1, 2, 3, 4, 5, 6, 7, 8, 9, 10, 11, 12, 13, 14] 15 [15, 14, 13, 12, 11, 10, 9, 8, 7, 6, 5, 1, 0] [16] (fun _ => [(16, 52, _)]) rfl rfl (prs_cons (pri rfl (p_move rfl)) (prs_cons (pri rfl (p_move rfl)) (prs_cons (pri rfl (p_move rfl)) (prs_cons (pri rfl (p_move rfl)) (prs_cons (pri rfl (p_bin rfl rfl (b_sub (by first | exact w_i64 (by omega) (by omega) | rfl)))) (prs_cons (pri rfl (p_move rfl)) (prs_cons (pri rfl (p_move rfl)) (prs_cons (pri rfl (p_bin rfl rfl (b_sub (by first | exact w_i64 (by omega) (by omega) | rfl)))) (prs_cons (pri rfl (p_idx_sl (j := (j - 1)) Try.underlying39 t54 rfl rfl (hs_own (k := 0) rfl) (by omega) (by first | omega | (simp; omega)))) (prs_cons (pri rfl (p_loadA t54 rfl rfl rfl (g_el' (hs_own (k := 0) rfl) (by intro _; rfl) (getD_get dE (by first | omega | (simp; omega))) (by rfl)))) (prs_cons (pri rfl (p_move rfl)) (prs_cons (pri rfl (p_move rfl)) (prs_cons (pri rfl (p_idx_sl (j := j) Try.underlying39 t54 rfl rfl (hs_own (k := 0) rfl) (by omega) (by first | omega | (simp; omega)))) (prs_cons (pri rfl (p_loadA t54 rfl rfl rfl (g_el' (hs_own (k := 0) rfl) (by intro _; rfl) (getD_get dE (by first | omega | (simp; omega))) (by rfl)))) (prs_cons (pri rfl (p_idx_sl (j := j) Try.underlying39 t54 rfl rfl (hs_own (k := 0) rfl) (by omega) (by first | omega | (simp; omega)))) prs_nil))))))))))))))) rfl rfl rfl rfl rfl rfl rfl rfl rfl (fun _ _ => rfl) rfl (ms_store_el (k := 0) t54 rfl rfl rfl (by intro _; rfl) (getD_get dE (by first | omega | (simp; omega))) rfl rfl) (fun _ _ => stg_mem0 [16, 2, 3, 4] 17 [17, 16, 15, 14, 13, 12, 11, 10, 9, 8, 7, 6, 5, 4, 3, 2, 1, 0] [] (fun _ => []) rfl rfl (prs_cons (pri rfl (p_idx_sl (j := (j - 1)) Try.underlying39 t54 rfl rfl (hs_own (k := 0) rfl) (by omega) (by first | omega | (simp; omega)))) (prs_cons (pri rfl (p_move rfl)) (prs_cons (pri rfl (p_move rfl)) (prs_cons (pri rfl (p_bin rfl rfl (b_sub (by first | exact w_i64 (by omega) (by omega) | rfl)))) prs_nil)))) rfl rfl rfl rfl rfl rfl rfl rfl rfl (fun _ _ => rfl) rfl (ms_store_el (k := 0) t54 rfl rfl rfl (by intro _; rfl) (getD_get dE (by first | omega | (simp; omega))) rfl rfl) (fun _ _ => stg_end [] rfl rfl prs_nil rfl rfl rfl ?_)))
        refine r_region ?_
        refine r_p (p_move rfl) rfl ?_
        refine r_p (p_bin rfl rfl (b_sub (by first | exact w_i64 (by omega) (by omega) | rfl))) rfl ?_
        refine r_p (p_assign rfl) rfl ?_
        refine r_nil ?_
        refine r_here (j - 1, sw dE zs j (j - 1)) ⟨⟨by dsimp only; omega, by dsimp only; omega, by simp only [sw_len, hz], hv2.sw (by omega) (by omega), ?_⟩, by dsimp only; omega⟩ (by rw [show ((j - 1 : Nat) : Int) = j - 1 by omega]; rfl) rfl rfl
        dsimp only
        rw [← hin, insIn_go dE less (by omega) hless]
      · (try simp only [decide_eq_true_eq, decide_eq_false_iff_not, Bool.and_eq_true, Bool.or_eq_true, Bool.and_eq_false_iff, Bool.or_eq_false_iff, Bool.not_eq_true, Bool.not_eq_false, Bool.not_eq_true', Bool.not_eq_false', Bool.not_not, bne_iff_ne, beq_iff_eq] at h3)
        have hstop : ¬ (a < j ∧ less (zs.getD j dE) (zs.getD (j - 1) dE) = true) := by rintro ⟨hq1, hq2⟩; have hq3 := hx32.2 hq2; omega
        refine r_exit ?_
        refine r_region ?_
        refine r_p (p_move rfl) rfl ?_
        refine r_p (p_bin rfl rfl (b_add (by first | exact w_i64 (by omega) (by omega) | rfl))) rfl ?_
        refine r_p (p_assign rfl) rfl ?_
        refine r_nil ?_
        refine r_here (i + 1, zs) ⟨⟨by dsimp only; omega, by dsimp only; omega, hz, hv2, ?_⟩, by dsimp only; omega⟩ rfl rfl rfl
        dsimp only
        rw [← hr, show b - i = (b - (i + 1)) + 1 by omega, insOut, ← hin, insIn_stop dE _ hstop]
    · refine r_draw [18, 19, 20, 21, 22, 23, 24, 25, 26, 27, 28, 29, 30, 31, 32, 33, 34] _ rfl (stg_end (V := [(0, 18, _), (1, 19, _), (2, 20, _), (3, 21, _), (4, 22, _), (5, 23, _), (6, 24, _), (7, 25, _), (8, 26, _), (9, 27, _), (10, 28, _), (11, 29, _), (12, 30, _), (13, 31, _), (14, 32, _), (15, 33, _), (16, 34, _)]) [0, 1, 2, 3, 4, 5, 6, 7, 8, 9, 10, 11, 12, 13, 14, 15, 16] rfl rfl (prs_cons (pri rfl (p_move rfl)) (prs_cons (pri rfl (p_move rfl)) (prs_cons (pri rfl (p_bin rfl rfl b_gt)) (prs_cons (pri rfl (p_move rfl)) (prs_cons (prig_n rfl rfl rfl (decide_eq_false (by omega))) (prs_cons (prig_n rfl rfl rfl (decide_eq_false (by omega))) (prs_cons (prig_n rfl rfl rfl (decide_eq_false (by omega))) (prs_cons (prig_n rfl rfl rfl (decide_eq_false (by omega))) (prs_cons (prig_n rfl rfl rfl (decide_eq_false (by omega))) (prs_cons (prig_n rfl rfl rfl (decide_eq_false (by omega))) (prs_cons (prig_n rfl rfl rfl (decide_eq_false (by omega))) (prs_cons (prig_n rfl rfl rfl (decide_eq_false (by omega))) (prs_cons (prig_n rfl rfl rfl (decide_eq_false (by omega))) (prs_cons (prig_n rfl rfl rfl (decide_eq_false (by omega))) (prs_cons (prig_n rfl rfl rfl (decide_eq_false (by omega))) (prs_cons (prig_n rfl rfl rfl (decide_eq_false (by omega))) (prs_cons (pri rfl (p_pick rfl rfl rfl (pick_f (decide_eq_false (by omega))))) prs_nil))))))))))))))))) rfl rfl rfl ?_)
      refine r_cond rfl (fun h4 => ?_) (fun h4 => ?_)
      · exact absurd h4 (by simp)
      · (try simp only [decide_eq_true_eq, decide_eq_false_iff_not, Bool.and_eq_true, Bool.or_eq_true, Bool.and_eq_false_iff, Bool.or_eq_false_iff, Bool.not_eq_true, Bool.not_eq_false, Bool.not_eq_true', Bool.not_eq_false', Bool.not_not, bne_iff_ne, beq_iff_eq] at h4)
        have hstop : ¬ (a < j ∧ less (zs.getD j dE) (zs.getD (j - 1) dE) = true) := by omega
        refine r_exit ?_
        refine r_region ?_
        refine r_p (p_move rfl) rfl ?_
        refine r_p (p_bin rfl rfl (b_add (by first | exact w_i64 (by omega) (by omega) | rfl))) rfl ?_
        refine r_p (p_assign rfl) rfl ?_
        refine r_nil ?_
        refine r_here (i + 1, zs) ⟨⟨by dsimp only; omega, by dsimp only; omega, hz, hv2, ?_⟩, by dsimp only; omega⟩ rfl rfl rfl
        dsimp only
        rw [← hr, show b - i = (b - (i + 1)) + 1 by omega, insOut, ← hin, insIn_stop dE _ hstop]
  · (try simp only [decide_eq_true_eq, decide_eq_false_iff_not, Bool.and_eq_true, Bool.or_eq_true, Bool.and_eq_false_iff, Bool.or_eq_false_iff, Bool.not_eq_true, Bool.not_eq_false, Bool.not_eq_true', Bool.not_eq_false', Bool.not_not, bne_iff_ne, beq_iff_eq] at h1)
    have hb0 : b - i = 0 := by omega
    rw [hb0, insOut] at hr
    refine r_exit ?_
    refine r_end () trivial rfl rs0 rfl [0, 1] [] rfl ?_ rfl
    rw [← hr]
    rfl
theorem inv_rotE {p : En → Prop} (hd : p dE) {xs : List En} (h : InP p xs) (f m i j : Nat) : InP p (rot dE f xs m i j) := rot_all dE hd f xs m i j h
set_option maxRecDepth 100000 in
set_option maxHeartbeats 4000000 in
theorem symm_specE (hc : CmpOk nf caps A Bro veEnt p dE less) : ∀ (f : Nat) (v : SV) (xs : List En) (a m b : Nat) (hv : InP p xs) (ha : a < m) (hb : m < b) (hbl : b ≤ xs.length) (hl : xs.length ≤ 1000) (hf : b - a ≤ f),
    Spec Try.prog 102 [sv v, .int .i64 (a : Int), .int .i64 (m : Int), .int .i64 (b : Int), .func (.func nf) #[] caps.toArray] [own 54 36 eEnt (sv v) xs, A] [Bro] (X := Unit) (fun _ => True) (fun _ => .tuple #[]) (fun _ => [own 54 36 eEnt (sv v) (symM dE less f xs a m b), A]) (fun _ => []) := by
  intro f
  induction f with
  | zero => intro v xs a m b hv ha hb hbl hl hf; omega
  | succ f ih =>
  intro v xs a m b hv ha hb hbl hl hf
  have ihi : ∀ (ys : List En) (a' m' b' : Int), InP p ys → 0 ≤ a' → a' < m' → m' < b' → b' ≤ ys.length → ys.length ≤ 1000 → b' - a' ≤ f → Spec Try.prog 102 [sv v, .int .i64 a', .int .i64 m', .int .i64 b', .func (.func nf) #[] caps.toArray] [own 54 36 eEnt (sv v) ys, A] [Bro] (X := Unit) (fun _ => True) (fun _ => .tuple #[]) (fun _ => [own 54 36 eEnt (sv v) (symM dE less f ys a'.toNat m'.toNat b'.toNat), A]) (fun _ => []) := by
    intro ys a' m' b' h1 h2 h3 h4 h5 h6 h7
    obtain ⟨a', rfl⟩ := Int.eq_ofNat_of_zero_le h2
    obtain ⟨m', rfl⟩ := Int.eq_ofNat_of_zero_le (show 0 ≤ m' by omega)
    obtain ⟨b', rfl⟩ := Int.eq_ofNat_of_zero_le (show 0 ≤ b' by omega)
    simp only [Int.toNat_natCast]
    exact ih v ys a' m' b' h1 (by omega) (by omega) (by omega) h6 (by omega)
  refine r_enter Try.func102 rfl Try.ntmps102 rfl fun w0 M H => ?_
  refine r_seq ?_
  refine r_seq ?_
  refine r_region ?_
  refine r_p (p_move rfl) rfl ?_
  refine r_p (p_move rfl) rfl ?_
  refine r_p (p_bin rfl rfl (b_sub (by first | exact w_i64 (by omega) (by omega) | rfl))) rfl ?_
  refine r_p (p_bin rfl rfl b_eq) rfl ?_
  refine r_nil ?_
  refine r_cond rfl (fun h1 => ?_) (fun h1 => ?_)
  · (try simp only [decide_eq_true_eq, decide_eq_false_iff_not, Bool.and_eq_true, Bool.or_eq_true, Bool.and_eq_false_iff, Bool.or_eq_false_iff, Bool.not_eq_true, Bool.not_eq_false, Bool.not_eq_true', Bool.not_eq_false', Bool.not_not, bne_iff_ne, beq_iff_eq] at h1)
    have hm1 : m - a = 1 := by omega
    refine r_seq ?_
    refine r_region ?_
    refine r_p (p_move rfl) rfl ?_
    refine r_p (p_assign rfl) rfl ?_
    refine r_nil ?_
    refine r_seq ?_
    refine r_region ?_
    refine r_p (p_move rfl) rfl ?_
    refine r_p (p_assign rfl) rfl ?_
    refine r_nil ?_
    refine r_seq ?_
    refine r_block ?_
    refine r_loop (X := Nat × Nat) (fun x => m ≤ x.1 ∧ x.1 ≤ x.2 ∧ x.2 ≤ b ∧ ∃ n, x.2 - x.1 ≤ n ∧ bsr (fun h => less (xs.getD h dE) (xs.getD a dE)) n x.1 x.2 = bsr (fun h => less (xs.getD h dE) (xs.getD a dE)) (b - m) m b) (fun x => [(0, sv v), (1, .int .i64 (a : Int)), (2, .int .i64 (m : Int)), (3, .int .i64 (b : Int)), (4, .func (.func nf) #[] caps.toArray), (10, .int .i64 (x.1 : Int)), (11, .int .i64 (x.2 : Int))]) (fun x => [(0, own 54 36 eEnt (sv v) xs), (1, A)]) (fun x => [(0, Bro)]) (fun x => x.2 - x.1) (m, b) ⟨Nat.le_refl _, by dsimp only; omega, Nat.le_refl _, b - m, Nat.le_refl _, rfl⟩ rfl rfl rfl (fun ⟨i, j⟩ hx => ?_)
    obtain ⟨hi, hij, hj, n, hn, hr⟩ := hx
    dsimp only at hi hij hj hn hr ⊢
    refine r_seq ?_
    refine r_seq ?_
    refine r_region ?_
    refine r_p (p_move rfl) rfl ?_
    refine r_p (p_move rfl) rfl ?_
    refine r_p (p_bin rfl rfl b_lt) rfl ?_
    refine r_nil ?_
    refine r_cond rfl (fun h2 => ?_) (fun h2 => ?_)
    · (try simp only [decide_eq_true_eq, decide_eq_false_iff_not, Bool.and_eq_true, Bool.or_eq_true, Bool.and_eq_false_iff, Bool.or_eq_false_iff, Bool.not_eq_true, Bool.not_eq_false, Bool.not_eq_true', Bool.not_eq_false', Bool.not_not, bne_iff_ne, beq_iff_eq] at h2)
      have hlt : i < j := by omega
      refine r_skip ?_
      refine r_block ?_
      refine r_seq ?_
      refine r_region ?_
      refine r_p (p_move rfl) rfl ?_
      refine r_p (p_move rfl) rfl ?_
      refine r_p (p_bin rfl rfl (b_add (by first | exact w_i64 (by omega) (by omega) | rfl))) rfl ?_
      refine r_p (p_conv Try.underlying3 Try.underlying91 rfl (by first | exact w_u64 (by omega) (by omega) | rfl)) rfl ?_
      refine r_p (p_bin rfl rfl (b_shr (by decide) (by decide) (half_nat i j))) rfl ?_
      refine r_p (p_conv Try.underlying91 Try.underlying3 rfl (by first | exact w_i64 (by omega) (by omega) | rfl)) rfl ?_
      refine r_p (p_assign rfl) rfl ?_
      refine r_nil ?_
      refine r_seq ?_
      refine r_draw [40, 41, 42, 43, 44, 45, 46, 47, 48, 49, 50] _ rfl (stg_mem (V := [(0, 40, _), (1, 41, _), (2, 42, _), (3, 43, _), (4, 44, _), (5, 45, _), (6, 46, _), (7, 47, _), (8, 48, _)]) [0, 1, 2, 3, 4, 5, 6, 7, 8] 9 [9, 8, 7, 6, 5, 4, 3, 2, 1, 0] [10] (fun x49 => [(10, 50, _)]) rfl rfl (prs_cons (pri rfl (p_move rfl)) (prs_cons (pri rfl (p_move rfl)) (prs_cons (pri rfl (p_move rfl)) (prs_cons (pri rfl (p_idx_sl (j := ((i + j) / 2)) Try.underlying39 t54 rfl rfl (hs_own (k := 0) rfl) (by omega) (by first | omega | (simp; omega)))) (prs_cons (pri rfl (p_loadA t54 rfl rfl rfl (g_el' (hs_own (k := 0) rfl) (by intro _; rfl) (getD_get dE (by first | omega | (simp; omega))) (by rfl)))) (prs_cons (pri rfl (p_move rfl)) (prs_cons (pri rfl (p_move rfl)) (prs_cons (pri rfl (p_idx_sl (j := a) Try.underlying39 t54 rfl rfl (hs_own (k := 0) rfl) (by omega) (by first | omega | (simp; omega)))) (prs_cons (pri rfl (p_loadA t54 rfl rfl rfl (g_el' (hs_own (k := 0) rfl) (by intro _; rfl) (getD_get dE (by first | omega | (simp; omega))) (by rfl)))) prs_nil))))))))) rfl rfl rfl rfl rfl rfl rfl rfl rfl rfl rfl (fun _ _ => rfl) rfl (ms_call (xs := [.tmp 44, .tmp 48]) (hc.run _ _ (InP.get hv (by omega)) (InP.get hv (by omega))) hc.cb [1] [(false, 0)] [1] [] rfl rfl rfl rfl rfl rfl rfl rfl (fun _ _ => rfl) (fun _ _ _ => rfl)) (fun x49 hx49 => stg_end [10] rfl rfl (prs_cons (pri rfl (p_bin rfl rfl b_lt)) prs_nil) rfl rfl rfl ?_))
      refine r_cond rfl (fun h3 => ?_) (fun h3 => ?_)
      · (try simp only [decide_eq_true_eq, decide_eq_false_iff_not, Bool.and_eq_true, Bool.or_eq_true, Bool.and_eq_false_iff, Bool.or_eq_false_iff, Bool.not_eq_true, Bool.not_eq_false, Bool.not_eq_true', Bool.not_eq_false', Bool.not_not, bne_iff_ne, beq_iff_eq] at h3)
        have hf1 : (fun h => less (xs.getD h dE) (xs.getD a dE)) ((i + j) / 2) = true := hx49.1 (by omega)
        refine r_region ?_
        refine r_p (p_move rfl) rfl ?_
        refine r_p (p_bin rfl rfl (b_add (by first | exact w_i64 (by omega) (by omega) | rfl))) rfl ?_
        refine r_p (p_assign rfl) rfl ?_
        refine r_nil ?_
        refine r_here ((i + j) / 2 + 1, j) ⟨⟨by dsimp only; omega, by dsimp only; omega, by dsimp only; omega, n - 1, by dsimp only; omega, ?_⟩, by dsimp only; omega⟩ rfl rfl rfl
        dsimp only
        rw [← hr, bsr_T hlt hn hf1]
      · (try simp only [decide_eq_true_eq, decide_eq_false_iff_not, Bool.and_eq_true, Bool.or_eq_true, Bool.and_eq_false_iff, Bool.or_eq_false_iff, Bool.not_eq_true, Bool.not_eq_false, Bool.not_eq_true', Bool.not_eq_false', Bool.not_not, bne_iff_ne, beq_iff_eq] at h3)
        have hf1 : (fun h => less (xs.getD h dE) (xs.getD a dE)) ((i + j) / 2) = false := Bool.eq_false_iff.2 fun hq => absurd (hx49.2 hq) (by omega)
        refine r_region ?_
        refine r_p (p_move rfl) rfl ?_
        refine r_p (p_assign rfl) rfl ?_
        refine r_nil ?_
        refine r_here (i, (i + j) / 2) ⟨⟨by dsimp only; omega, by dsimp only; omega, by dsimp only; omega, n - 1, by dsimp only; omega, ?_⟩, by dsimp only; omega⟩ rfl rfl rfl
        dsimp only
        rw [← hr, bsr_F hlt hn hf1]
    · (try simp only [decide_eq_true_eq, decide_eq_false_iff_not, Bool.and_eq_true, Bool.or_eq_true, Bool.and_eq_false_iff, Bool.or_eq_false_iff, Bool.not_eq_true, Bool.not_eq_false, Bool.not_eq_true', Bool.not_eq_false', Bool.not_not, bne_iff_ne, beq_iff_eq] at h2)
      rw [bsr_done (by omega)] at hr
      have hri := bsr_range (f := fun h => less (xs.getD h dE) (xs.getD a dE)) (b - m) m b (by omega)
      refine r_exit ?_
      refine r_seq ?_
      refine r_seq ?_
      refine r_region ?_
      refine r_p (p_move rfl) rfl ?_
      refine r_p (p_assign rfl) rfl ?_
      refine r_nil ?_
      refine r_block ?_
      refine r_loop (X := Nat × List En) (fun x => a ≤ x.1 ∧ x.1 ≤ i - 1 ∧ x.2.length = xs.length ∧ up dE x.2 x.1 (i - 1 - x.1) = up dE xs a (i - 1 - a)) (fun x => [(0, sv v), (1, .int .i64 (a : Int)), (2, .int .i64 (m : Int)), (3, .int .i64 (b : Int)), (4, .func (.func nf) #[] caps.toArray), (10, .int .i64 (i : Int)), (13, .int .i64 (x.1 : Int))]) (fun x => [(0, own 54 36 eEnt (sv v) x.2), (1, A)]) (fun x => [(0, Bro)]) (fun x => i - 1 - x.1) (a, xs) ⟨Nat.le_refl _, by dsimp only; omega, rfl, rfl⟩ rfl rfl rfl (fun ⟨k, ys⟩ hx2 => ?_)
      obtain ⟨hk, hki, hy, hks⟩ := hx2
      dsimp only at hk hki hy hks ⊢
      refine r_seq ?_
      refine r_seq ?_
      refine r_region ?_
      refine r_p (p_move rfl) rfl ?_
      refine r_p (p_move rfl) rfl ?_
      refine r_p (p_bin rfl rfl (b_sub (by first | exact w_i64 (by omega) (by omega) | rfl))) rfl ?_
      refine r_p (p_bin rfl rfl b_lt) rfl ?_
      refine r_nil ?_
      refine r_cond rfl (fun h4 => ?_) (fun h4 => ?_)
      · (try simp only [decide_eq_true_eq, decide_eq_false_iff_not, Bool.and_eq_true, Bool.or_eq_true, Bool.and_eq_false_iff, Bool.or_eq_false_iff, Bool.not_eq_true, Bool.not_eq_false, Bool.not_eq_true', Bool.not_eq_false', Bool.not_not, bne_iff_ne, beq_iff_eq] at h4)
        have hk1 : k < i - 1 := by omega
        refine r_skip ?_
        refine r_seq ?_
        refine r_block ?_
        refine r_drawM [0, 1, 2, 3, 4, 5, 6, 7, 8, 9, 10, 11, 12, 13, 14, 15, 16, 17] [0, 1, 13, 14, 15, 2, 3, 4, 5, 6, 7, 8, 9, 10, 11, 12, 16, 17] [61, 62, 63, 64, 65, 66, 67, 68, 69, 70, 71, 72, 73, 74, 75, 76] _ rfl rfl rfl (stg_mem0 (V := [(0, 61, _), (1, 62, _), (2, 63, _), (3, 64, _), (4, 65, _), (5, 66, _), (6, 67, _), (7, 68, _), (8, 69, _), (9, 70, _), (10, 71, _), (11, 72, _), (12, 73, _), (13, 74, _), (14, 75, _)]) [0, 1, 2, 3, 4, 5, 6, 7, 8, 9, 10, 11, 12, 13, 14] 15 [15, 14, 13, 12, 11, 10, 9, 8, 7, 6, 5, 1, 0] [16] (fun _ => [(16, 76, _)]) rfl rfl (prs_cons (pri rfl (p_move rfl)) (prs_cons (pri rfl (p_move rfl)) (prs_cons (pri rfl (p_move rfl)) (prs_cons (pri rfl (p_move rfl)) (prs_cons (pri rfl (p_bin rfl rfl (b_add (by first | exact w_i64 (by omega) (by omega) | rfl)))) (prs_cons (pri rfl (p_move rfl)) (prs_cons (pri rfl (p_move rfl)) (prs_cons (pri rfl (p_bin rfl rfl (b_add (by first | exact w_i64 (by omega) (by omega) | rfl)))) (prs_cons (pri rfl (p_idx_sl (j := (k + 1)) Try.underlying39 t54 rfl rfl (hs_own (k := 0) rfl) (by omega) (by first | omega | (simp; omega)))) (prs_cons (pri rfl (p_loadA t54 rfl rfl rfl (g_el' (hs_own (k := 0) rfl) (by intro _; rfl) (getD_get dE (by first | omega | (simp; omega))) (by rfl)))) (prs_cons (pri rfl (p_move rfl)) (prs_cons (pri rfl (p_move rfl)) (prs_cons (pri rfl (p_idx_sl (j := k) Try.underlying39 t54 rfl rfl (hs_own (k := 0) rfl) (by omega) (by first | omega | (simp; omega)))) (prs_cons (pri rfl (p_loadA t54 rfl rfl rfl (g_el' (hs_own (k := 0) rfl) (by intro _; rfl) (getD_get dE (by first | omega | (simp; omega))) (by rfl)))) (prs_cons (pri rfl (p_idx_sl (j := k) Try.underlying39 t54 rfl rfl (hs_own (k := 0) rfl) (by omega) (by first | omega | (simp; omega)))) prs_nil))))))))))))))) rfl rfl rfl rfl rfl rfl rfl rfl rfl (fun _ _ => rfl) rfl (ms_store_el (k := 0) t54 rfl rfl rfl (by intro _; rfl) (getD_get dE (by first | omega | (simp; omega))) rfl rfl) (fun _ _ => stg_mem0 [16, 2, 3, 4] 17 [17, 16, 15, 14, 13, 12, 11, 10, 9, 8, 7, 6, 5, 4, 3, 2, 1, 0] [] (fun _ => []) rfl rfl (prs_cons (pri rfl (p_idx_sl (j := (k + 1)) Try.underlying39 t54 rfl rfl (hs_own (k := 0) rfl) (by omega) (by first | omega | (simp; omega)))) (prs_cons (pri rfl (p_move rfl)) (prs_cons (pri rfl (p_move rfl)) (prs_cons (pri rfl (p_bin rfl rfl (b_add (by first | exact w_i64 (by omega) (by omega) | rfl)))) prs_nil)))) rfl rfl rfl rfl rfl rfl rfl rfl rfl (fun _ _ => rfl) rfl (ms_store_el (k := 0) t54 rfl rfl rfl (by intro _; rfl) (getD_get dE (by first | omega | (simp; omega))) rfl rfl) (fun _ _ => stg_end [] rfl rfl prs_nil rfl rfl rfl ?_)))
        refine r_region ?_
        refine r_p (p_move rfl) rfl ?_
        refine r_p (p_bin rfl rfl (b_add (by first | exact w_i64 (by omega) (by omega) | rfl))) rfl ?_
        refine r_p (p_assign rfl) rfl ?_
        refine r_nil ?_
        refine r_here (k + 1, sw dE ys k (k + 1)) ⟨⟨by dsimp only; omega, by dsimp only; omega, by simp only [sw_len, hy], ?_⟩, by dsimp only; omega⟩ rfl rfl rfl
        dsimp only
        rw [← hks, show i - 1 - k = (i - 1 - (k + 1)) + 1 by omega, up]
      · (try simp only [decide_eq_true_eq, decide_eq_false_iff_not, Bool.and_eq_true, Bool.or_eq_true, Bool.and_eq_false_iff, Bool.or_eq_false_iff, Bool.not_eq_true, Bool.not_eq_false, Bool.not_eq_true', Bool.not_eq_false', Bool.not_not, bne_iff_ne, beq_iff_eq] at h4)
        have hk1 : i - 1 - k = 0 := by omega
        rw [hk1, up] at hks
        refine r_exit ?_
        refine r_cret ?_
        refine r_ret () trivial rfl rs0 rfl [0, 1] [] rfl ?_ rfl
        rw [symM_1 dE less hm1, ← hr, ← hks]
        rfl
  · (try simp only [decide_eq_true_eq, decide_eq_false_iff_not, Bool.and_eq_true, Bool.or_eq_true, Bool.and_eq_false_iff, Bool.or_eq_false_iff, Bool.not_eq_true, Bool.not_eq_false, Bool.not_eq_true', Bool.not_eq_false', Bool.not_not, bne_iff_ne, beq_iff_eq] at h1)
    have hm1 : ¬ m - a = 1 := by omega
    refine r_skip ?_
    refine r_seq ?_
    refine r_seq ?_
    refine r_region ?_
    refine r_p (p_move rfl) rfl ?_
    refine r_p (p_move rfl) rfl ?_
    refine r_p (p_bin rfl rfl (b_sub (by first | exact w_i64 (by omega) (by omega) | rfl))) rfl ?_
    refine r_p (p_bin rfl rfl b_eq) rfl ?_
    refine r_nil ?_
    refine r_cond rfl (fun h5 => ?_) (fun h5 => ?_)
    · (try simp only [decide_eq_true_eq, decide_eq_false_iff_not, Bool.and_eq_true, Bool.or_eq_true, Bool.and_eq_false_iff, Bool.or_eq_false_iff, Bool.not_eq_true, Bool.not_eq_false, Bool.not_eq_true', Bool.not_eq_false', Bool.not_not, bne_iff_ne, beq_iff_eq] at h5)
      have hm2 : b - m = 1 := by omega
      refine r_seq ?_
      refine r_region ?_
      refine r_p (p_move rfl) rfl ?_
      refine r_p (p_assign rfl) rfl ?_
      refine r_nil ?_
      refine r_seq ?_
      refine r_region ?_
      refine r_p (p_move rfl) rfl ?_
      refine r_p (p_assign rfl) rfl ?_
      refine r_nil ?_
      refine r_seq ?_
      refine r_block ?_
      refine r_loop (X := Nat × Nat) (fun x => a ≤ x.1 ∧ x.1 ≤ x.2 ∧ x.2 ≤ m ∧ ∃ n, x.2 - x.1 ≤ n ∧ bsr (fun h => !less (xs.getD m dE) (xs.getD h dE)) n x.1 x.2 = bsr (fun h => !less (xs.getD m dE) (xs.getD h dE)) (m - a) a m) (fun x => [(0, sv v), (1, .int .i64 (a : Int)), (2, .int .i64 (m : Int)), (3, .int .i64 (b : Int)), (4, .func (.func nf) #[] caps.toArray), (14, .int .i64 (x.1 : Int)), (15, .int .i64 (x.2 : Int))]) (fun x => [(0, own 54 36 eEnt (sv v) xs), (1, A)]) (fun x => [(0, Bro)]) (fun x => x.2 - x.1) (a, m) ⟨Nat.le_refl _, by dsimp only; omega, Nat.le_refl _, m - a, Nat.le_refl _, rfl⟩ rfl rfl rfl (fun ⟨i, j⟩ hx => ?_)
      obtain ⟨hi, hij, hj, n, hn, hr⟩ := hx
      dsimp only at hi hij hj hn hr ⊢
      refine r_seq ?_
      refine r_seq ?_
      refine r_region ?_
      refine r_p (p_move rfl) rfl ?_
      refine r_p (p_move rfl) rfl ?_
      refine r_p (p_bin rfl rfl b_lt) rfl ?_
      refine r_nil ?_
      refine r_cond rfl (fun h6 => ?_) (fun h6 => ?_)
      · (try simp only [decide_eq_true_eq, decide_eq_false_iff_not, Bool.and_eq_true, Bool.or_eq_true, Bool.and_eq_false_iff, Bool.or_eq_false_iff, Bool.not_eq_true, Bool.not_eq_false, Bool.not_eq_true', Bool.not_eq_false', Bool.not_not, bne_iff_ne, beq_iff_eq] at h6)
        have hlt : i < j := by omega
        refine r_skip ?_
        refine r_block ?_
        refine r_seq ?_
        refine r_region ?_
        refine r_p (p_move rfl) rfl ?_
        refine r_p (p_move rfl) rfl ?_
        refine r_p (p_bin rfl rfl (b_add (by first | exact w_i64 (by omega) (by omega) | rfl))) rfl ?_
        refine r_p (p_conv Try.underlying3 Try.underlying91 rfl (by first | exact w_u64 (by omega) (by omega) | rfl)) rfl ?_
        refine r_p (p_bin rfl rfl (b_shr (by decide) (by decide) (half_nat i j))) rfl ?_
        refine r_p (p_conv Try.underlying91 Try.underlying3 rfl (by first | exact w_i64 (by omega) (by omega) | rfl)) rfl ?_
        refine r_p (p_assign rfl) rfl ?_
        refine r_nil ?_
        refine r_seq ?_
        refine r_draw [92, 93, 94, 95, 96, 97, 98, 99, 100, 101, 102, 103] _ rfl (stg_mem (V := [(0, 92, _), (1, 93, _), (2, 94, _), (3, 95, _), (4, 96, _), (5, 97, _), (6, 98, _), (7, 99, _), (8, 100, _)]) [0, 1, 2, 3, 4, 5, 6, 7, 8] 9 [9, 8, 7, 6, 5, 4, 3, 2, 1, 0] [10, 11] (fun x101 => [(10, 102, _), (11, 103, _)]) rfl rfl (prs_cons (pri rfl (p_move rfl)) (prs_cons (pri rfl (p_move rfl)) (prs_cons (pri rfl (p_move rfl)) (prs_cons (pri rfl (p_idx_sl (j := m) Try.underlying39 t54 rfl rfl (hs_own (k := 0) rfl) (by omega) (by first | omega | (simp; omega)))) (prs_cons (pri rfl (p_loadA t54 rfl rfl rfl (g_el' (hs_own (k := 0) rfl) (by intro _; rfl) (getD_get dE (by first | omega | (simp; omega))) (by rfl)))) (prs_cons (pri rfl (p_move rfl)) (prs_cons (pri rfl (p_move rfl)) (prs_cons (pri rfl (p_idx_sl (j := ((i + j) / 2)) Try.underlying39 t54 rfl rfl (hs_own (k := 0) rfl) (by omega) (by first | omega | (simp; omega)))) (prs_cons (pri rfl (p_loadA t54 rfl rfl rfl (g_el' (hs_own (k := 0) rfl) (by intro _; rfl) (getD_get dE (by first | omega | (simp; omega))) (by rfl)))) prs_nil))))))))) rfl rfl rfl rfl rfl rfl rfl rfl rfl rfl rfl (fun _ _ => rfl) rfl (ms_call (xs := [.tmp 96, .tmp 100]) (hc.run _ _ (InP.get hv (by omega)) (InP.get hv (by omega))) hc.cb [1] [(false, 0)] [1] [] rfl rfl rfl rfl rfl rfl rfl rfl (fun _ _ => rfl) (fun _ _ _ => rfl)) (fun x101 hx101 => stg_end [10, 11] rfl rfl (prs_cons (pri rfl (p_bin rfl rfl b_lt)) (prs_cons (pri rfl (p_not rfl)) prs_nil)) rfl rfl rfl ?_))
        refine r_cond rfl (fun h7 => ?_) (fun h7 => ?_)
        · (try simp only [decide_eq_true_eq, decide_eq_false_iff_not, Bool.and_eq_true, Bool.or_eq_true, Bool.and_eq_false_iff, Bool.or_eq_false_iff, Bool.not_eq_true, Bool.not_eq_false, Bool.not_eq_true', Bool.not_eq_false', Bool.not_not, bne_iff_ne, beq_iff_eq] at h7)
          have hf1 : (fun h => !less (xs.getD m dE) (xs.getD h dE)) ((i + j) / 2) = true := by dsimp only; rw [Bool.not_eq_true']; exact Bool.eq_false_iff.2 fun hq => absurd (hx101.2 hq) (by omega)
          refine r_region ?_
          refine r_p (p_move rfl) rfl ?_
          refine r_p (p_bin rfl rfl (b_add (by first | exact w_i64 (by omega) (by omega) | rfl))) rfl ?_
          refine r_p (p_assign rfl) rfl ?_
          refine r_nil ?_
          refine r_here ((i + j) / 2 + 1, j) ⟨⟨by dsimp only; omega, by dsimp only; omega, by dsimp only; omega, n - 1, by dsimp only; omega, ?_⟩, by dsimp only; omega⟩ rfl rfl rfl
          dsimp only
          rw [← hr, bsr_T hlt hn hf1]
        · (try simp only [decide_eq_true_eq, decide_eq_false_iff_not, Bool.and_eq_true, Bool.or_eq_true, Bool.and_eq_false_iff, Bool.or_eq_false_iff, Bool.not_eq_true, Bool.not_eq_false, Bool.not_eq_true', Bool.not_eq_false', Bool.not_not, bne_iff_ne, beq_iff_eq] at h7)
          have hf1 : (fun h => !less (xs.getD m dE) (xs.getD h dE)) ((i + j) / 2) = false := by dsimp only; rw [Bool.not_eq_false']; exact hx101.1 (by omega)
          refine r_region ?_
          refine r_p (p_move rfl) rfl ?_
          refine r_p (p_assign rfl) rfl ?_
          refine r_nil ?_
          refine r_here (i, (i + j) / 2) ⟨⟨by dsimp only; omega, by dsimp only; omega, by dsimp only; omega, n - 1, by dsimp only; omega, ?_⟩, by dsimp only; omega⟩ rfl rfl rfl
          dsimp only
          rw [← hr, bsr_F hlt hn hf1]
      · (try simp only [decide_eq_true_eq, decide_eq_false_iff_not, Bool.and_eq_true, Bool.or_eq_true, Bool.and_eq_false_iff, Bool.or_eq_false_iff, Bool.not_eq_true, Bool.not_eq_false, Bool.not_eq_true', Bool.not_eq_false', Bool.not_not, bne_iff_ne, beq_iff_eq] at h6)
        rw [bsr_done (by omega)] at hr
        have hri := bsr_range (f := fun h => !less (xs.getD m dE) (xs.getD h dE)) (m - a) a m (by omega)
        refine r_exit ?_
        refine r_seq ?_
        refine r_seq ?_
        refine r_region ?_
        refine r_p (p_move rfl) rfl ?_
        refine r_p (p_assign rfl) rfl ?_
        refine r_nil ?_
        refine r_block ?_
        refine r_loop (X := Nat × List En) (fun x => i ≤ x.1 ∧ x.1 ≤ m ∧ x.2.length = xs.length ∧ down dE x.2 x.1 (x.1 - i) = down dE xs m (m - i)) (fun x => [(0, sv v), (1, .int .i64 (a : Int)), (2, .int .i64 (m : Int)), (3, .int .i64 (b : Int)), (4, .func (.func nf) #[] caps.toArray), (14, .int .i64 (i : Int)), (17, .int .i64 (x.1 : Int))]) (fun x => [(0, own 54 36 eEnt (sv v) x.2), (1, A)]) (fun x => [(0, Bro)]) (fun x => x.1 - i) (m, xs) ⟨by dsimp only; omega, Nat.le_refl _, rfl, rfl⟩ rfl rfl rfl (fun ⟨k, ys⟩ hx2 => ?_)
        obtain ⟨hk, hki, hy, hks⟩ := hx2
        dsimp only at hk hki hy hks ⊢
        refine r_seq ?_
        refine r_seq ?_
        refine r_region ?_
        refine r_p (p_move rfl) rfl ?_
        refine r_p (p_move rfl) rfl ?_
        refine r_p (p_bin rfl rfl b_gt) rfl ?_
        refine r_nil ?_
        refine r_cond rfl (fun h8 => ?_) (fun h8 => ?_)
        · (try simp only [decide_eq_true_eq, decide_eq_false_iff_not, Bool.and_eq_true, Bool.or_eq_true, Bool.and_eq_false_iff, Bool.or_eq_false_iff, Bool.not_eq_true, Bool.not_eq_false, Bool.not_eq_true', Bool.not_eq_false', Bool.not_not, bne_iff_ne, beq_iff_eq] at h8)
          have hk1 : i < k := by omega
          refine r_skip ?_
          refine r_seq ?_
          refine r_block ?_
          refine r_drawM [0, 1, 2, 3, 4, 5, 6, 7, 8, 9, 10, 11, 12, 13, 14, 15, 16, 17] [0, 1, 13, 14, 15, 2, 3, 4, 5, 6, 7, 8, 9, 10, 11, 12, 16, 17] [113, 114, 115, 116, 117, 118, 119, 120, 121, 122, 123, 124, 125, 126, 127, 128] _ rfl rfl rfl (stg_mem0 (V := [(0, 113, _), (1, 114, _), (2, 115, _), (3, 116, _), (4, 117, _), (5, 118, _), (6, 119, _), (7, 120, _), (8, 121, _), (9, 122, _), (10, 123, _), (11, 124, _), (12, 125, _), (13, 126, _), (14, 127, _)]) [0, 1, 2, 3, 4, 5, 6, 7, 8, 9, 10, 11, 12, 13, 14] 15 [15, 14, 13, 12, 11, 10, 9, 8, 7, 6, 5, 1, 0] [16] (fun _ => [(16, 128, _)]) rfl rfl (prs_cons (pri rfl (p_move rfl)) (prs_cons (pri rfl (p_move rfl)) (prs_cons (pri rfl (p_move rfl)) (prs_cons (pri rfl (p_move rfl)) (prs_cons (pri rfl (p_bin rfl rfl (b_sub (by first | exact w_i64 (by omega) (by omega) | rfl)))) (prs_cons (pri rfl (p_move rfl)) (prs_cons (pri rfl (p_move rfl)) (prs_cons (pri rfl (p_bin rfl rfl (b_sub (by first | exact w_i64 (by omega) (by omega) | rfl)))) (prs_cons (pri rfl (p_idx_sl (j := (k - 1)) Try.underlying39 t54 rfl rfl (hs_own (k := 0) rfl) (by omega) (by first | omega | (simp; omega)))) (prs_cons (pri rfl (p_loadA t54 rfl rfl rfl (g_el' (hs_own (k := 0) rfl) (by intro _; rfl) (getD_get dE (by first | omega | (simp; omega))) (by rfl)))) (prs_cons (pri rfl (p_move rfl)) (prs_cons (pri rfl (p_move rfl)) (prs_cons (pri rfl (p_idx_sl (j := k) Try.underlying39 t54 rfl rfl (hs_own (k := 0) rfl) (by omega) (by first | omega | (simp; omega)))) (prs_cons (pri rfl (p_loadA t54 rfl rfl rfl (g_el' (hs_own (k := 0) rfl) (by intro _; rfl) (getD_get dE (by first | omega | (simp; omega))) (by rfl)))) (prs_cons (pri rfl (p_idx_sl (j := k) Try.underlying39 t54 rfl rfl (hs_own (k := 0) rfl) (by omega) (by first | omega | (simp; omega)))) prs_nil))))))))))))))) rfl rfl rfl rfl rfl rfl rfl rfl rfl (fun _ _ => rfl) rfl (ms_store_el (k := 0) t54 rfl rfl rfl (by intro _; rfl) (getD_get dE (by first | omega | (simp; omega))) rfl rfl) (fun _ _ => stg_mem0 [16, 2, 3, 4] 17 [17, 16, 15, 14, 13, 12, 11, 10, 9, 8, 7, 6, 5, 4, 3, 2, 1, 0] [] (fun _ => []) rfl rfl (prs_cons (pri rfl (p_idx_sl (j := (k - 1)) Try.underlying39 t54 rfl rfl (hs_own (k := 0) rfl) (by omega) (by first | omega | (simp; omega)))) (prs_cons (pri rfl (p_move rfl)) (prs_cons (pri rfl (p_move rfl)) (prs_cons (pri rfl (p_bin rfl rfl (b_sub (by first | exact w_i64 (by omega) (by omega) | rfl)))) prs_nil)))) rfl rfl rfl rfl rfl rfl rfl rfl rfl (fun _ _ => rfl) rfl (ms_store_el (k := 0) t54 rfl rfl rfl (by intro _; rfl) (getD_get dE (by first | omega | (simp; omega))) rfl rfl) (fun _ _ => stg_end [] rfl rfl prs_nil rfl rfl rfl ?_)))
          refine r_region ?_
          refine r_p (p_move rfl) rfl ?_
          refine r_p (p_bin rfl rfl (b_sub (by first | exact w_i64 (by omega) (by omega) | rfl))) rfl ?_
          refine r_p (p_assign rfl) rfl ?_
          refine r_nil ?_
          refine r_here (k - 1, sw dE ys k (k - 1)) ⟨⟨by dsimp only; omega, by dsimp only; omega, by simp only [sw_len, hy], ?_⟩, by dsimp only; omega⟩ (by rw [show ((k - 1 : Nat) : Int) = k - 1 by omega]; rfl) rfl rfl
          dsimp only
          rw [← hks, show k - i = (k - 1 - i) + 1 by omega, down]
        · (try simp only [decide_eq_true_eq, decide_eq_false_iff_not, Bool.and_eq_true, Bool.or_eq_true, Bool.and_eq_false_iff, Bool.or_eq_false_iff, Bool.not_eq_true, Bool.not_eq_false, Bool.not_eq_true', Bool.not_eq_false', Bool.not_not, bne_iff_ne, beq_iff_eq] at h8)
          have hk1 : k - i = 0 := by omega
          rw [hk1, down] at hks
          refine r_exit ?_
          refine r_cret ?_
          refine r_ret () trivial rfl rs0 rfl [0, 1] [] rfl ?_ rfl
          rw [symM_2 dE less hm1 hm2, ← hr, ← hks]
          rfl
    · (try simp only [decide_eq_true_eq, decide_eq_false_iff_not, Bool.and_eq_true, Bool.or_eq_true, Bool.and_eq_false_iff, Bool.or_eq_false_iff, Bool.not_eq_true, Bool.not_eq_false, Bool.not_eq_true', Bool.not_eq_false', Bool.not_not, bne_iff_ne, beq_iff_eq] at h5)
      have hm2 : ¬ b - m = 1 := by omega
      obtain ⟨mid, hmid⟩ : ∃ mid, mid = (a + b) / 2 := ⟨_, rfl⟩
      obtain ⟨s0, hs0⟩ : ∃ s0, s0 = if mid < m then mid + m - b else a := ⟨_, rfl⟩
      obtain ⟨r0, hr0⟩ : ∃ r0, r0 = if mid < m then mid else m := ⟨_, rfl⟩
      have hsr : a ≤ s0 ∧ s0 ≤ r0 ∧ r0 ≤ m ∧ r0 ≤ mid ∧ mid + m ≤ b + s0 ∧ a < mid ∧ mid < b := by subst hs0 hr0 hmid; split <;> omega
      obtain ⟨hsr1, hsr2, hsr3, hsr4, hsr5, hsr6, hsr7⟩ := hsr
      refine r_skip ?_
      refine r_seq ?_
      refine r_region ?_
      refine r_p (p_move rfl) rfl ?_
      refine r_p (p_move rfl) rfl ?_
      refine r_p (p_bin rfl rfl (b_add (by first | exact w_i64 (by omega) (by omega) | rfl))) rfl ?_
      refine r_p (p_conv Try.underlying3 Try.underlying91 rfl (by first | exact w_u64 (by omega) (by omega) | rfl)) rfl ?_
      refine r_p (p_bin rfl rfl (b_shr (by decide) (by decide) (show ((a : Int) + b) / 2 ^ (1 : Int).toNat = (mid : Int) by rw [half_nat, hmid]))) rfl ?_
      refine r_p (p_conv Try.underlying91 Try.underlying3 rfl (by first | exact w_i64 (by omega) (by omega) | rfl)) rfl ?_
      refine r_p (p_assign rfl) rfl ?_
      refine r_nil ?_
      refine r_seq ?_
      refine r_region ?_
      refine r_p (p_move rfl) rfl ?_
      refine r_p (p_move rfl) rfl ?_
      refine r_p (p_bin rfl rfl (b_add (by first | exact w_i64 (by omega) (by omega) | rfl))) rfl ?_
      refine r_p (p_assign rfl) rfl ?_
      refine r_nil ?_
      refine r_seq ?_
      refine r_region ?_
      refine r_p (p_assign rfl) rfl ?_
      refine r_p (p_assign rfl) rfl ?_
      refine r_nil ?_
      refine r_seq_cut (X := Unit) (fun _ => True) (fun _ => [(0, sv v), (1, .int .i64 (a : Int)), (2, .int .i64 (m : Int)), (3, .int .i64 (b : Int)), (4, .func (.func nf) #[] caps.toArray), (18, .int .i64 (mid : Int)), (19, .int .i64 ((mid : Int) + m)), (20, .int .i64 (s0 : Int)), (21, .int .i64 (r0 : Int))]) (fun _ => [(0, own 54 36 eEnt (sv v) xs), (1, A)]) (fun _ => [(0, Bro)]) ?_ (fun _ _ => ?_)
      · refine r_seq ?_
        refine r_region ?_
        refine r_p (p_move rfl) rfl ?_
        refine r_p (p_move rfl) rfl ?_
        refine r_p (p_bin rfl rfl b_gt) rfl ?_
        refine r_nil ?_
        refine r_cond rfl (fun h9 => ?_) (fun h9 => ?_)
        · (try simp only [decide_eq_true_eq, decide_eq_false_iff_not, Bool.and_eq_true, Bool.or_eq_true, Bool.and_eq_false_iff, Bool.or_eq_false_iff, Bool.not_eq_true, Bool.not_eq_false, Bool.not_eq_true', Bool.not_eq_false', Bool.not_not, bne_iff_ne, beq_iff_eq] at h9)
          refine r_seq ?_
          refine r_region ?_
          refine r_p (p_move rfl) rfl ?_
          refine r_p (p_move rfl) rfl ?_
          refine r_p (p_bin rfl rfl (b_sub (by first | exact w_i64 (by omega) (by omega) | rfl))) rfl ?_
          refine r_p (p_assign rfl) rfl ?_
          refine r_nil ?_
          refine r_region ?_
          refine r_p (p_move rfl) rfl ?_
          refine r_p (p_assign rfl) rfl ?_
          refine r_nil ?_
          refine r_here () trivial (by rw [show (s0 : Int) = (mid : Int) + m - b by rw [hs0]; split <;> omega, show (r0 : Int) = (mid : Int) by rw [hr0]; split <;> omega]; rfl) rfl rfl
        · (try simp only [decide_eq_true_eq, decide_eq_false_iff_not, Bool.and_eq_true, Bool.or_eq_true, Bool.and_eq_false_iff, Bool.or_eq_false_iff, Bool.not_eq_true, Bool.not_eq_false, Bool.not_eq_true', Bool.not_eq_false', Bool.not_not, bne_iff_ne, beq_iff_eq] at h9)
          refine r_seq ?_
          refine r_region ?_
          refine r_p (p_move rfl) rfl ?_
          refine r_p (p_assign rfl) rfl ?_
          refine r_nil ?_
          refine r_region ?_
          refine r_p (p_move rfl) rfl ?_
          refine r_p (p_assign rfl) rfl ?_
          refine r_nil ?_
          refine r_here () trivial (by rw [show (s0 : Int) = (a : Int) by rw [hs0]; split <;> omega, show (r0 : Int) = (m : Int) by rw [hr0]; split <;> omega]; rfl) rfl rfl
      · refine r_seq ?_
        refine r_region ?_
        refine r_p (p_move rfl) rfl ?_
        refine r_p (p_bin rfl rfl (b_sub (by first | exact w_i64 (by omega) (by omega) | rfl))) rfl ?_
        refine r_p (p_assign rfl) rfl ?_
        refine r_nil ?_
        refine r_seq ?_
        refine r_block ?_
        refine r_loop (X := Nat × Nat) (fun x => s0 ≤ x.1 ∧ x.1 ≤ x.2 ∧ x.2 ≤ r0 ∧ ∃ n, x.2 - x.1 ≤ n ∧ bsr (fun c => !less (xs.getD (mid + m - 1 - c) dE) (xs.getD c dE)) n x.1 x.2 = bsr (fun c => !less (xs.getD (mid + m - 1 - c) dE) (xs.getD c dE)) (r0 - s0) s0 r0) (fun x => [(0, sv v), (1, .int .i64 (a : Int)), (2, .int .i64 (m : Int)), (3, .int .i64 (b : Int)), (4, .func (.func nf) #[] caps.toArray), (20, .int .i64 (x.1 : Int)), (21, .int .i64 (x.2 : Int)), (18, .int .i64 (mid : Int)), (19, .int .i64 ((mid : Int) + m)), (22, .int .i64 ((mid : Int) + m - 1))]) (fun x => [(0, own 54 36 eEnt (sv v) xs), (1, A)]) (fun x => [(0, Bro)]) (fun x => x.2 - x.1) (s0, r0) ⟨Nat.le_refl _, by dsimp only; omega, Nat.le_refl _, r0 - s0, Nat.le_refl _, rfl⟩ rfl rfl rfl (fun ⟨i, j⟩ hx => ?_)
        obtain ⟨hi, hij, hj, n, hn, hr⟩ := hx
        dsimp only at hi hij hj hn hr ⊢
        refine r_seq ?_
        refine r_seq ?_
        refine r_region ?_
        refine r_p (p_move rfl) rfl ?_
        refine r_p (p_move rfl) rfl ?_
        refine r_p (p_bin rfl rfl b_lt) rfl ?_
        refine r_nil ?_
        refine r_cond rfl (fun h10 => ?_) (fun h10 => ?_)
        · (try simp only [decide_eq_true_eq, decide_eq_false_iff_not, Bool.and_eq_true, Bool.or_eq_true, Bool.and_eq_false_iff, Bool.or_eq_false_iff, Bool.not_eq_true, Bool.not_eq_false, Bool.not_eq_true', Bool.not_eq_false', Bool.not_not, bne_iff_ne, beq_iff_eq] at h10)
          have hlt : i < j := by omega
          refine r_skip ?_
          refine r_block ?_
          refine r_seq ?_
          refine r_region ?_
          refine r_p (p_move rfl) rfl ?_
          refine r_p (p_move rfl) rfl ?_
          refine r_p (p_bin rfl rfl (b_add (by first | exact w_i64 (by omega) (by omega) | rfl))) rfl ?_
          refine r_p (p_conv Try.underlying3 Try.underlying91 rfl (by first | exact w_u64 (by omega) (by omega) | rfl)) rfl ?_
          refine r_p (p_bin rfl rfl (b_shr (by decide) (by decide) (half_nat i j))) rfl ?_
          refine r_p (p_conv Try.underlying91 Try.underlying3 rfl (by first | exact w_i64 (by omega) (by omega) | rfl)) rfl ?_
          refine r_p (p_assign rfl) rfl ?_
          refine r_nil ?_
          refine r_seq ?_
          refine r_draw [158, 159, 160, 161, 162, 163, 164, 165, 166, 167, 168, 169, 170, 171] _ rfl (stg_mem (V := [(0, 158, _), (1, 159, _), (2, 160, _), (3, 161, _), (4, 162, _), (5, 163, _), (6, 164, _), (7, 165, _), (8, 166, _), (9, 167, _), (10, 168, _)]) [0, 1, 2, 3, 4, 5, 6, 7, 8, 9, 10] 11 [11, 10, 9, 8, 7, 6, 5, 4, 3, 2, 1, 0] [12, 13] (fun x169 => [(12, 170, _), (13, 171, _)]) rfl rfl (prs_cons (pri rfl (p_move rfl)) (prs_cons (pri rfl (p_move rfl)) (prs_cons (pri rfl (p_move rfl)) (prs_cons (pri rfl (p_move rfl)) (prs_cons (pri rfl (p_bin rfl rfl (b_sub (by first | exact w_i64 (by omega) (by omega) | rfl)))) (prs_cons (pri rfl (p_idx_sl (j := (mid + m - 1 - (i + j) / 2)) Try.underlying39 t54 rfl rfl (hs_own (k := 0) rfl) (by omega) (by first | omega | (simp; omega)))) (prs_cons (pri rfl (p_loadA t54 rfl rfl rfl (g_el' (hs_own (k := 0) rfl) (by intro _; rfl) (getD_get dE (by first | omega | (simp; omega))) (by rfl)))) (prs_cons (pri rfl (p_move rfl)) (prs_cons (pri rfl (p_move rfl)) (prs_cons (pri rfl (p_idx_sl (j := ((i + j) / 2)) Try.underlying39 t54 rfl rfl (hs_own (k := 0) rfl) (by omega) (by first | omega | (simp; omega)))) (prs_cons (pri rfl (p_loadA t54 rfl rfl rfl (g_el' (hs_own (k := 0) rfl) (by intro _; rfl) (getD_get dE (by first | omega | (simp; omega))) (by rfl)))) prs_nil))))))))))) rfl rfl rfl rfl rfl rfl rfl rfl rfl rfl rfl (fun _ _ => rfl) rfl (ms_call (xs := [.tmp 164, .tmp 168]) (hc.run _ _ (InP.get hv (by omega)) (InP.get hv (by omega))) hc.cb [1] [(false, 0)] [1] [] rfl rfl rfl rfl rfl rfl rfl rfl (fun _ _ => rfl) (fun _ _ _ => rfl)) (fun x169 hx169 => stg_end [12, 13] rfl rfl (prs_cons (pri rfl (p_bin rfl rfl b_lt)) (prs_cons (pri rfl (p_not rfl)) prs_nil)) rfl rfl rfl ?_))
          refine r_cond rfl (fun h11 => ?_) (fun h11 => ?_)
          · (try simp only [decide_eq_true_eq, decide_eq_false_iff_not, Bool.and_eq_true, Bool.or_eq_true, Bool.and_eq_false_iff, Bool.or_eq_false_iff, Bool.not_eq_true, Bool.not_eq_false, Bool.not_eq_true', Bool.not_eq_false', Bool.not_not, bne_iff_ne, beq_iff_eq] at h11)
            have hf1 : (fun c => !less (xs.getD (mid + m - 1 - c) dE) (xs.getD c dE)) ((i + j) / 2) = true := by dsimp only; rw [Bool.not_eq_true']; exact Bool.eq_false_iff.2 fun hq => absurd (hx169.2 hq) (by omega)
            refine r_region ?_
            refine r_p (p_move rfl) rfl ?_
            refine r_p (p_bin rfl rfl (b_add (by first | exact w_i64 (by omega) (by omega) | rfl))) rfl ?_
            refine r_p (p_assign rfl) rfl ?_
            refine r_nil ?_
            refine r_here ((i + j) / 2 + 1, j) ⟨⟨by dsimp only; omega, by dsimp only; omega, by dsimp only; omega, n - 1, by dsimp only; omega, ?_⟩, by dsimp only; omega⟩ rfl rfl rfl
            dsimp only
            rw [← hr, bsr_T hlt hn hf1]
          · (try simp only [decide_eq_true_eq, decide_eq_false_iff_not, Bool.and_eq_true, Bool.or_eq_true, Bool.and_eq_false_iff, Bool.or_eq_false_iff, Bool.not_eq_true, Bool.not_eq_false, Bool.not_eq_true', Bool.not_eq_false', Bool.not_not, bne_iff_ne, beq_iff_eq] at h11)
            have hf1 : (fun c => !less (xs.getD (mid + m - 1 - c) dE) (xs.getD c dE)) ((i + j) / 2) = false := by dsimp only; rw [Bool.not_eq_false']; exact hx169.1 (by omega)
            refine r_region ?_
            refine r_p (p_move rfl) rfl ?_
            refine r_p (p_assign rfl) rfl ?_
            refine r_nil ?_
            refine r_here (i, (i + j) / 2) ⟨⟨by dsimp only; omega, by dsimp only; omega, by dsimp only; omega, n - 1, by dsimp only; omega, ?_⟩, by dsimp only; omega⟩ rfl rfl rfl
            dsimp only
            rw [← hr, bsr_F hlt hn hf1]
        · (try simp only [decide_eq_true_eq, decide_eq_false_iff_not, Bool.and_eq_true, Bool.or_eq_true, Bool.and_eq_false_iff, Bool.or_eq_false_iff, Bool.not_eq_true, Bool.not_eq_false, Bool.not_eq_true', Bool.not_eq_false', Bool.not_not, bne_iff_ne, beq_iff_eq] at h10)
          rw [bsr_done (by omega)] at hr
          have hri := bsr_range (f := fun c => !less (xs.getD (mid + m - 1 - c) dE) (xs.getD c dE)) (r0 - s0) s0 r0 (by omega)
          obtain ⟨start, hst⟩ : ∃ start, start = bsr (fun c => !less (xs.getD (mid + m - 1 - c) dE) (xs.getD c dE)) (r0 - s0) s0 r0 := ⟨_, rfl⟩
          rw [← hst] at hr hri
          have hr2 : start = i := hr.symm
          subst hr2
          obtain ⟨e, he⟩ : ∃ e, e = mid + m - start := ⟨_, rfl⟩
          obtain ⟨xs1, hx1⟩ : ∃ xs1, xs1 = if start < m ∧ m < e then rot dE (e - start) xs m (m - start) (e - m) else xs := ⟨_, rfl⟩
          obtain ⟨xs2, hx2⟩ : ∃ xs2, xs2 = if a < start ∧ start < mid then symM dE less f xs1 a start mid else xs1 := ⟨_, rfl⟩
          have hv1 : xs1.length = xs.length ∧ InP p xs1 := by
            rw [hx1]
            split
            · exact ⟨rot_len dE _ _ _ _ _, inv_rotE hc.dflt hv _ _ _ _⟩
            · exact ⟨rfl, hv⟩
          have hv2 : xs2.length = xs.length ∧ InP p xs2 := by
            rw [hx2]
            split
            · have h2 := symM_both dE less (p := p) hc.dflt f xs1 a start mid hv1.2
              exact ⟨h2.1.trans hv1.1, h2.2⟩
            · exact hv1
          obtain ⟨hl1, hv1⟩ := hv1
          obtain ⟨hl2, hv2⟩ := hv2
          have hei : (e : Int) = mid + m - start := by omega
          
          refine r_exit ?_
          refine r_seq ?_
          refine r_region ?_
          refine r_p (p_move rfl) rfl ?_
          refine r_p (p_move rfl) rfl ?_
          refine r_p (p_bin rfl rfl (b_sub (by first | exact w_i64 (by omega) (by omega) | rfl))) rfl ?_
          refine r_p (p_assign rfl) rfl ?_
          refine r_nil ?_
          refine r_seq_cut (X := Unit) (fun _ => True) (fun _ => [(0, sv v), (1, .int .i64 (a : Int)), (2, .int .i64 (m : Int)), (3, .int .i64 (b : Int)), (4, .func (.func nf) #[] caps.toArray), (18, .int .i64 (mid : Int)), (20, .int .i64 (start : Int)), (24, .int .i64 (e : Int))]) (fun _ => [(0, own 54 36 eEnt (sv v) xs1), (1, A)]) (fun _ => [(0, Bro)]) ?_ (fun _ _ => ?_)
          · refine r_seq ?_
            refine r_region ?_
            refine r_p (p_move rfl) rfl ?_
            refine r_p (p_move rfl) rfl ?_
            refine r_p (p_bin rfl rfl b_lt) rfl ?_
            refine r_p (p_move rfl) rfl ?_
            refine r_gp [] rfl rfl trivial (fun hg12 => p_move rfl) rfl ?_
            refine r_gp [(182, _)] rfl rfl ⟨rfl, trivial⟩ (fun hg13 => p_move rfl) rfl ?_
            refine r_gp [(182, _), (183, _)] rfl rfl ⟨rfl, rfl, trivial⟩ (fun hg14 => p_bin rfl rfl b_lt) rfl ?_
            refine r_p (p_pick rfl rfl rfl (by first | exact pick_and | exact pick_or |  rfl)) rfl ?_
            refine r_nil ?_
            refine r_cond rfl (fun h15 => ?_) (fun h15 => ?_)
            · (try simp only [decide_eq_true_eq, decide_eq_false_iff_not, Bool.and_eq_true, Bool.or_eq_true, Bool.and_eq_false_iff, Bool.or_eq_false_iff, Bool.not_eq_true, Bool.not_eq_false, Bool.not_eq_true', Bool.not_eq_false', Bool.not_not, bne_iff_ne, beq_iff_eq] at h15)
              have hc12 : start < m ∧ m < e := by omega
              refine r_region ?_
              refine r_p (p_move rfl) rfl ?_
              refine r_p (p_move rfl) rfl ?_
              refine r_p (p_move rfl) rfl ?_
              refine r_p (p_move rfl) rfl ?_
              refine r_p (p_move rfl) rfl ?_
              refine r_call (xs := [.tmp 186, .tmp 187, .tmp 188, .tmp 189, .tmp 190]) (rot_iE v xs start m (mid + m - start) (by omega) (by omega) (by omega) (by omega) (by omega) (by omega) hl) cb106 [0, 1] [(false, 0)] [0, 1] [] rfl rfl rfl rfl rfl rfl rfl rfl (fun _ _ => rfl) (fun _ _ _ => rfl) rfl (fun _ _ => ?_)
              refine r_nil ?_
              refine r_here () trivial (by rw [hei]; rfl) (by rw [hx1, if_pos hc12, show e - start = ((mid : Int) + m - start - start).toNat by omega, show m - start = ((m : Int) - start).toNat by omega, show e - m = ((mid : Int) + m - start - m).toNat by omega]; rfl) rfl
            · (try simp only [decide_eq_true_eq, decide_eq_false_iff_not, Bool.and_eq_true, Bool.or_eq_true, Bool.and_eq_false_iff, Bool.or_eq_false_iff, Bool.not_eq_true, Bool.not_eq_false, Bool.not_eq_true', Bool.not_eq_false', Bool.not_not, bne_iff_ne, beq_iff_eq] at h15)
              have hc12 : ¬ (start < m ∧ m < e) := by omega
              refine r_skip ?_
              refine r_here () trivial (by rw [hei]; rfl) (by rw [hx1, if_neg hc12]; rfl) rfl
          · refine r_seq_cut (X := Unit) (fun _ => True) (fun _ => [(0, sv v), (1, .int .i64 (a : Int)), (2, .int .i64 (m : Int)), (3, .int .i64 (b : Int)), (4, .func (.func nf) #[] caps.toArray), (18, .int .i64 (mid : Int)), (20, .int .i64 (start : Int)), (24, .int .i64 (e : Int))]) (fun _ => [(0, own 54 36 eEnt (sv v) xs2), (1, A)]) (fun _ => [(0, Bro)]) ?_ (fun _ _ => ?_)
            · refine r_seq ?_
              refine r_region ?_
              refine r_p (p_move rfl) rfl ?_
              refine r_p (p_move rfl) rfl ?_
              refine r_p (p_bin rfl rfl b_lt) rfl ?_
              refine r_p (p_move rfl) rfl ?_
              refine r_gp [] rfl rfl trivial (fun hg16 => p_move rfl) rfl ?_
              refine r_gp [(196, _)] rfl rfl ⟨rfl, trivial⟩ (fun hg17 => p_move rfl) rfl ?_
              refine r_gp [(196, _), (197, _)] rfl rfl ⟨rfl, rfl, trivial⟩ (fun hg18 => p_bin rfl rfl b_lt) rfl ?_
              refine r_p (p_pick rfl rfl rfl (by first | exact pick_and | exact pick_or |  rfl)) rfl ?_
              refine r_nil ?_
              refine r_cond rfl (fun h19 => ?_) (fun h19 => ?_)
              · (try simp only [decide_eq_true_eq, decide_eq_false_iff_not, Bool.and_eq_true, Bool.or_eq_true, Bool.and_eq_false_iff, Bool.or_eq_false_iff, Bool.not_eq_true, Bool.not_eq_false, Bool.not_eq_true', Bool.not_eq_false', Bool.not_not, bne_iff_ne, beq_iff_eq] at h19)
                have hc13 : a < start ∧ start < mid := by omega
                refine r_region ?_
                refine r_p (p_move rfl) rfl ?_
                refine r_p (p_move rfl) rfl ?_
                refine r_p (p_move rfl) rfl ?_
                refine r_p (p_move rfl) rfl ?_
                refine r_p (p_move rfl) rfl ?_
                refine r_call (xs := [.tmp 200, .tmp 201, .tmp 202, .tmp 203, .tmp 204]) (ihi xs1 a start mid hv1 (by omega) (by omega) (by omega) (by omega) (by omega) (by omega)) cb102 [0, 1] [(false, 0)] [0, 1] [] rfl rfl rfl rfl rfl rfl rfl rfl (fun _ _ => rfl) (fun _ _ _ => rfl) rfl (fun _ _ => ?_)
                refine r_nil ?_
                refine r_here () trivial rfl (by rw [hx2, if_pos hc13]; rfl) rfl
              · (try simp only [decide_eq_true_eq, decide_eq_false_iff_not, Bool.and_eq_true, Bool.or_eq_true, Bool.and_eq_false_iff, Bool.or_eq_false_iff, Bool.not_eq_true, Bool.not_eq_false, Bool.not_eq_true', Bool.not_eq_false', Bool.not_not, bne_iff_ne, beq_iff_eq] at h19)
                have hc13 : ¬ (a < start ∧ start < mid) := by omega
                refine r_skip ?_
                refine r_here () trivial rfl (by rw [hx2, if_neg hc13]; rfl) rfl
            · refine r_seq ?_
              refine r_region ?_
              refine r_p (p_move rfl) rfl ?_
              refine r_p (p_move rfl) rfl ?_
              refine r_p (p_bin rfl rfl b_lt) rfl ?_
              refine r_p (p_move rfl) rfl ?_
              refine r_gp [] rfl rfl trivial (fun hg20 => p_move rfl) rfl ?_
              refine r_gp [(210, _)] rfl rfl ⟨rfl, trivial⟩ (fun hg21 => p_move rfl) rfl ?_
              refine r_gp [(210, _), (211, _)] rfl rfl ⟨rfl, rfl, trivial⟩ (fun hg22 => p_bin rfl rfl b_lt) rfl ?_
              refine r_p (p_pick rfl rfl rfl (by first | exact pick_and | exact pick_or |  rfl)) rfl ?_
              refine r_nil ?_
              refine r_cond rfl (fun h23 => ?_) (fun h23 => ?_)
              · (try simp only [decide_eq_true_eq, decide_eq_false_iff_not, Bool.and_eq_true, Bool.or_eq_true, Bool.and_eq_false_iff, Bool.or_eq_false_iff, Bool.not_eq_true, Bool.not_eq_false, Bool.not_eq_true', Bool.not_eq_false', Bool.not_not, bne_iff_ne, beq_iff_eq] at h23)
                have hc14 : mid < e ∧ e < b := by omega
                refine r_region ?_
                refine r_p (p_move rfl) rfl ?_
                refine r_p (p_move rfl) rfl ?_
                refine r_p (p_move rfl) rfl ?_
                refine r_p (p_move rfl) rfl ?_
                refine r_p (p_move rfl) rfl ?_
                refine r_call (xs := [.tmp 214, .tmp 215, .tmp 216, .tmp 217, .tmp 218]) (ihi xs2 mid e b hv2 (by omega) (by omega) (by omega) (by omega) (by omega) (by omega)) cb102 [0, 1] [(false, 0)] [0, 1] [] rfl rfl rfl rfl rfl rfl rfl rfl (fun _ _ => rfl) (fun _ _ _ => rfl) rfl (fun _ _ => ?_)
                refine r_nil ?_
                refine r_end () trivial rfl rs0 rfl [0, 1] [] rfl ?_ rfl
                rw [symM_3 dE less hm1 hm2 hmid hs0 hr0 hst he hx1 hx2, if_pos hc14]
                rfl
              · (try simp only [decide_eq_true_eq, decide_eq_false_iff_not, Bool.and_eq_true, Bool.or_eq_true, Bool.and_eq_false_iff, Bool.or_eq_false_iff, Bool.not_eq_true, Bool.not_eq_false, Bool.not_eq_true', Bool.not_eq_false', Bool.not_not, bne_iff_ne, beq_iff_eq] at h23)
                have hc14 : ¬ (mid < e ∧ e < b) := by omega
                refine r_skip ?_
                refine r_end () trivial rfl rs0 rfl [0, 1] [] rfl ?_ rfl
                rw [symM_3 dE less hm1 hm2 hmid hs0 hr0 hst he hx1 hx2, if_neg hc14]
                rfl
theorem symm_iE (hc : CmpOk nf caps A Bro veEnt p dE less) (f : Nat) (v : SV) (xs : List En) (a m b : Int) (hv : InP p xs) (h0 : 0 ≤ a) (ha : a < m) (hb : m < b) (hbl : b ≤ xs.length) (hl : xs.length ≤ 1000) (hf : b - a ≤ f) :
    Spec Try.prog 102 [sv v, .int .i64 a, .int .i64 m, .int .i64 b, .func (.func nf) #[] caps.toArray] [own 54 36 eEnt (sv v) xs, A] [Bro] (X := Unit) (fun _ => True) (fun _ => .tuple #[]) (fun _ => [own 54 36 eEnt (sv v) (symM dE less f xs a.toNat m.toNat b.toNat), A]) (fun _ => []) := by
  obtain ⟨a, rfl⟩ := Int.eq_ofNat_of_zero_le (show 0 ≤ a by omega)
  obtain ⟨m, rfl⟩ := Int.eq_ofNat_of_zero_le (show 0 ≤ m by omega)
  obtain ⟨b, rfl⟩ := Int.eq_ofNat_of_zero_le (show 0 ≤ b by omega)
  simp only [Int.toNat_natCast]
  exact symm_specE hc f v xs a m b hv (by omega) (by omega) (by omega) hl (by omega)

theorem ins_iE (hc : CmpOk nf caps A Bro veEnt p dE less) (f : Nat) (v : SV) (xs : List En) (a b : Int) (hv : InP p xs) (h0 : 0 ≤ a) (ha : a ≤ b) (hbl : b ≤ xs.length) (hl : xs.length ≤ 1000) :
    Spec Try.prog 101 [sv v, .int .i64 a, .int .i64 b, .func (.func nf) #[] caps.toArray] [own 54 36 eEnt (sv v) xs, A] [Bro] (X := Unit) (fun _ => True) (fun _ => .tuple #[]) (fun _ => [own 54 36 eEnt (sv v) (insSort dE less xs a.toNat b.toNat), A]) (fun _ => []) := by
  obtain ⟨a, rfl⟩ := Int.eq_ofNat_of_zero_le (show 0 ≤ a by omega)
  obtain ⟨b, rfl⟩ := Int.eq_ofNat_of_zero_le (show 0 ≤ b by omega)
  simp only [Int.toNat_natCast]
  exact ins_specE v xs a b hv (by omega) (by omega) hl hc

set_option maxRecDepth 100000 in
theorem stable_specE (v : SV) (xs : List En) (n : Nat) (hn : n = xs.length) (hv : InP p xs) (hl : xs.length ≤ 1000) (hc : CmpOk nf caps A Bro veEnt p dE less) :
    Spec Try.prog 92 [sv v, .int .i64 (n : Int), .func (.func nf) #[] caps.toArray] [own 54 36 eEnt (sv v) xs, A] [Bro] (X := Unit) (fun _ => True) (fun _ => .tuple #[]) (fun _ => [own 54 36 eEnt (sv v) (stable dE less xs), A]) (fun _ => []) := by
  refine r_enter Try.func92 rfl Try.ntmps92 rfl fun w0 M H => ?_
  refine r_seq ?_
  refine r_region ?_
  refine r_p (p_assign rfl) rfl ?_
  refine r_nil ?_
  refine r_seq ?_
  refine r_region ?_
  refine r_p (p_move rfl) rfl ?_
  refine r_p (p_assign rfl) rfl ?_
  refine r_p (p_assign rfl) rfl ?_
  refine r_nil ?_
  refine r_seq ?_
  refine r_block ?_
  refine r_loop (X := Nat × List En) (fun x => x.1 ≤ n ∧ x.2.length = xs.length ∧ InP p x.2 ∧ ∃ f, n ≤ x.1 + f ∧ blocks dE less 20 f x.2 x.1 n = blocks dE less 20 xs.length xs 0 xs.length) (fun x => [(0, sv v), (1, .int .i64 (n : Int)), (2, .func (.func nf) #[] caps.toArray), (6, .int .i64 20), (7, .int .i64 (x.1 : Int)), (8, .int .i64 ((x.1 : Int) + 20))]) (fun x => [(0, own 54 36 eEnt (sv v) x.2), (1, A)]) (fun x => [(0, Bro)]) (fun x => n - x.1) (0, xs) ⟨by dsimp only; omega, rfl, hv, n, by dsimp only; omega, by rw [hn]⟩ rfl rfl rfl (fun ⟨a, ys⟩ hx => ?_)
  obtain ⟨han, hyl, hyv, f, hf, hr⟩ := hx
  dsimp only at han hyl hyv hf hr ⊢
  refine r_seq ?_
  refine r_seq ?_
  refine r_region ?_
  refine r_p (p_move rfl) rfl ?_
  refine r_p (p_move rfl) rfl ?_
  refine r_p (p_bin rfl rfl b_le) rfl ?_
  refine r_nil ?_
  refine r_cond rfl (fun h1 => ?_) (fun h1 => ?_)
  · (try simp only [decide_eq_true_eq, decide_eq_false_iff_not, Bool.and_eq_true, Bool.or_eq_true, Bool.and_eq_false_iff, Bool.or_eq_false_iff, Bool.not_eq_true, Bool.not_eq_false, Bool.not_eq_true', Bool.not_eq_false', Bool.not_not, bne_iff_ne, beq_iff_eq] at h1)
    refine r_skip ?_
    refine r_block ?_
    refine r_seq ?_
    refine r_region ?_
    refine r_p (p_move rfl) rfl ?_
    refine r_p (p_move rfl) rfl ?_
    refine r_p (p_move rfl) rfl ?_
    refine r_p (p_move rfl) rfl ?_
    refine r_call (xs := [.tmp 14, .tmp 15, .tmp 16, .tmp 17]) (ins_iE hc 0 v ys a (a + 20) hyv (by omega) (by omega) (by omega) (by omega)) cb101 [0, 1] [(false, 0)] [0, 1] [] rfl rfl rfl rfl rfl rfl rfl rfl (fun _ _ => rfl) (fun _ _ _ => rfl) rfl (fun _ _ => ?_)
    refine r_nil ?_
    refine r_seq ?_
    refine r_region ?_
    refine r_p (p_move rfl) rfl ?_
    refine r_p (p_assign rfl) rfl ?_
    refine r_nil ?_
    refine r_region ?_
    refine r_p (p_move rfl) rfl ?_
    refine r_p (p_move rfl) rfl ?_
    refine r_p (p_bin rfl rfl (b_add (by first | exact w_i64 (by omega) (by omega) | rfl))) rfl ?_
    refine r_p (p_assign rfl) rfl ?_
    refine r_nil ?_
    refine r_here (a + 20, _) ⟨⟨by dsimp only; omega, by dsimp only; exact (insSort_len dE less ys _ _).trans hyl, insSort_all dE less hc.dflt hyv _ _, f - 1, by dsimp only; omega, ?_⟩, by dsimp only; omega⟩ rfl rfl rfl
    dsimp only
    rw [← hr, blocks_go dE less (bs := 20) (a := a) (by omega) hf (by omega)]
    rfl
  · (try simp only [decide_eq_true_eq, decide_eq_false_iff_not, Bool.and_eq_true, Bool.or_eq_true, Bool.and_eq_false_iff, Bool.or_eq_false_iff, Bool.not_eq_true, Bool.not_eq_false, Bool.not_eq_true', Bool.not_eq_false', Bool.not_not, bne_iff_ne, beq_iff_eq] at h1)
    refine r_exit ?_
    refine r_seq ?_
    refine r_region ?_
    refine r_p (p_move rfl) rfl ?_
    refine r_p (p_move rfl) rfl ?_
    refine r_p (p_move rfl) rfl ?_
    refine r_p (p_move rfl) rfl ?_
    refine r_call (xs := [.tmp 23, .tmp 24, .tmp 25, .tmp 26]) (ins_iE hc 0 v ys a n hyv (by omega) (by omega) (by omega) (by omega)) cb101 [0, 1] [(false, 0)] [0, 1] [] rfl rfl rfl rfl rfl rfl rfl rfl (fun _ _ => rfl) (fun _ _ _ => rfl) rfl (fun _ _ => ?_)
    refine r_nil ?_
    refine r_block ?_
    refine r_loop (X := Nat × List En) (fun x => 20 ≤ x.1 ∧ x.1 ≤ 100000 ∧ x.2.length = xs.length ∧ InP p x.2 ∧ ∃ f, n ≤ x.1 + f ∧ levels dE less f x.1 x.2 n = stable dE less xs) (fun x => [(0, sv v), (1, .int .i64 (n : Int)), (2, .func (.func nf) #[] caps.toArray), (6, .int .i64 (x.1 : Int))]) (fun x => [(0, own 54 36 eEnt (sv v) x.2), (1, A)]) (fun x => [(0, Bro)]) (fun x => n - x.1) (20, _) ⟨Nat.le_refl _, by dsimp only; omega, by dsimp only; exact (insSort_len dE less ys _ _).trans hyl, insSort_all dE less hc.dflt hyv _ _, n, by dsimp only; omega, ?_⟩ rfl rfl rfl (fun ⟨bs, zs⟩ hx3 => ?_)
    · dsimp only
      rw [stable, ← hr, blocks_done dE less (by omega), hn]
      rfl
    obtain ⟨hbs, hbs2, hzl, hzv, g, hg, hr3⟩ := hx3
    dsimp only at hbs hbs2 hzl hzv hg hr3 ⊢
    refine r_seq ?_
    refine r_seq ?_
    refine r_region ?_
    refine r_p (p_move rfl) rfl ?_
    refine r_p (p_move rfl) rfl ?_
    refine r_p (p_bin rfl rfl b_lt) rfl ?_
    refine r_nil ?_
    refine r_cond rfl (fun h2 => ?_) (fun h2 => ?_)
    · (try simp only [decide_eq_true_eq, decide_eq_false_iff_not, Bool.and_eq_true, Bool.or_eq_true, Bool.and_eq_false_iff, Bool.or_eq_false_iff, Bool.not_eq_true, Bool.not_eq_false, Bool.not_eq_true', Bool.not_eq_false', Bool.not_not, bne_iff_ne, beq_iff_eq] at h2)
      refine r_skip ?_
      refine r_block ?_
      refine r_seq ?_
      refine r_region ?_
      refine r_p (p_move rfl) rfl ?_
      refine r_p (p_bin rfl rfl (b_mul (by first | exact w_i64 (by omega) (by omega) | rfl))) rfl ?_
      refine r_p (p_assign rfl) rfl ?_
      refine r_p (p_assign rfl) rfl ?_
      refine r_nil ?_
      refine r_seq ?_
      refine r_block ?_
      refine r_loop (X := Nat × List En) (fun x => x.2.length = xs.length ∧ InP p x.2 ∧ x.1 ≤ n ∧ ∃ f, n ≤ x.1 + f ∧ merges dE less bs f x.2 x.1 n = merges dE less bs n zs 0 n) (fun x => [(0, sv v), (1, .int .i64 (n : Int)), (2, .func (.func nf) #[] caps.toArray), (6, .int .i64 (bs : Int)), (7, .int .i64 (x.1 : Int)), (8, .int .i64 ((x.1 : Int) + 2 * bs))]) (fun x => [(0, own 54 36 eEnt (sv v) x.2), (1, A)]) (fun x => [(0, Bro)]) (fun x => n - x.1) (0, zs) ⟨hzl, hzv, Nat.zero_le _, n, by dsimp only; omega, rfl⟩ (by simp [egets, evals, eget]; (repeat' apply And.intro) <;> rfl) rfl rfl (fun ⟨a, ws⟩ hx4 => ?_)
      obtain ⟨hwl, hwv, han2, f2, hf2, hr4⟩ := hx4
      dsimp only at hwl hwv han2 hf2 hr4 ⊢
      refine r_seq ?_
      refine r_seq ?_
      refine r_region ?_
      refine r_p (p_move rfl) rfl ?_
      refine r_p (p_move rfl) rfl ?_
      refine r_p (p_bin rfl rfl b_le) rfl ?_
      refine r_nil ?_
      refine r_cond rfl (fun h3 => ?_) (fun h3 => ?_)
      · (try simp only [decide_eq_true_eq, decide_eq_false_iff_not, Bool.and_eq_true, Bool.or_eq_true, Bool.and_eq_false_iff, Bool.or_eq_false_iff, Bool.not_eq_true, Bool.not_eq_false, Bool.not_eq_true', Bool.not_eq_false', Bool.not_not, bne_iff_ne, beq_iff_eq] at h3)
        refine r_skip ?_
        refine r_block ?_
        refine r_seq ?_
        refine r_region ?_
        refine r_p (p_move rfl) rfl ?_
        refine r_p (p_move rfl) rfl ?_
        refine r_p (p_move rfl) rfl ?_
        refine r_p (p_move rfl) rfl ?_
        refine r_p (p_bin rfl rfl (b_add (by first | exact w_i64 (by omega) (by omega) | rfl))) rfl ?_
        refine r_p (p_move rfl) rfl ?_
        refine r_p (p_move rfl) rfl ?_
        refine r_call (xs := [.tmp 36, .tmp 37, .tmp 40, .tmp 41, .tmp 42]) (symm_iE hc n v ws a (a + bs) (a + 2 * bs) hwv (by omega) (by omega) (by omega) (by omega) (by omega) (by omega)) cb102 [0, 1] [(false, 0)] [0, 1] [] rfl rfl rfl rfl rfl rfl rfl rfl (fun _ _ => rfl) (fun _ _ _ => rfl) rfl (fun _ _ => ?_)
        refine r_nil ?_
        refine r_seq ?_
        refine r_region ?_
        refine r_p (p_move rfl) rfl ?_
        refine r_p (p_assign rfl) rfl ?_
        refine r_nil ?_
        refine r_region ?_
        refine r_p (p_move rfl) rfl ?_
        refine r_p (p_move rfl) rfl ?_
        refine r_p (p_bin rfl rfl (b_mul (by first | exact w_i64 (by omega) (by omega) | rfl))) rfl ?_
        refine r_p (p_bin rfl rfl (b_add (by first | exact w_i64 (by omega) (by omega) | rfl))) rfl ?_
        refine r_p (p_assign rfl) rfl ?_
        refine r_nil ?_
        refine r_here (a + 2 * bs, _) ⟨⟨by dsimp only; exact (symM_both dE less (p := p) hc.dflt n ws a (a + bs) (a + 2 * bs) hwv).1.trans hwl, (symM_both dE less (p := p) hc.dflt n ws a (a + bs) (a + 2 * bs) hwv).2, by dsimp only; omega, f2 - 1, by dsimp only; omega, ?_⟩, by dsimp only; omega⟩ rfl rfl rfl
        dsimp only
        rw [← hr4, merges_go dE less (by omega) hf2 (by omega)]
      · (try simp only [decide_eq_true_eq, decide_eq_false_iff_not, Bool.and_eq_true, Bool.or_eq_true, Bool.and_eq_false_iff, Bool.or_eq_false_iff, Bool.not_eq_true, Bool.not_eq_false, Bool.not_eq_true', Bool.not_eq_false', Bool.not_not, bne_iff_ne, beq_iff_eq] at h3)
        refine r_exit ?_
        refine r_seq ?_
        refine r_seq ?_
        refine r_region ?_
        refine r_p (p_move rfl) rfl ?_
        refine r_p (p_move rfl) rfl ?_
        refine r_p (p_bin rfl rfl (b_add (by first | exact w_i64 (by omega) (by omega) | rfl))) rfl ?_
        refine r_p (p_assign rfl) rfl ?_
        refine r_nil ?_
        refine r_seq ?_
        refine r_region ?_
        refine r_p (p_move rfl) rfl ?_
        refine r_p (p_move rfl) rfl ?_
        refine r_p (p_bin rfl rfl b_lt) rfl ?_
        refine r_nil ?_
        refine r_cond rfl (fun h4 => ?_) (fun h4 => ?_)
        · (try simp only [decide_eq_true_eq, decide_eq_false_iff_not, Bool.and_eq_true, Bool.or_eq_true, Bool.and_eq_false_iff, Bool.or_eq_false_iff, Bool.not_eq_true, Bool.not_eq_false, Bool.not_eq_true', Bool.not_eq_false', Bool.not_not, bne_iff_ne, beq_iff_eq] at h4)
          refine r_region ?_
          refine r_p (p_move rfl) rfl ?_
          refine r_p (p_move rfl) rfl ?_
          refine r_p (p_move rfl) rfl ?_
          refine r_p (p_move rfl) rfl ?_
          refine r_p (p_move rfl) rfl ?_
          refine r_call (xs := [.tmp 55, .tmp 56, .tmp 57, .tmp 58, .tmp 59]) (symm_iE hc n v ws a (a + bs) n hwv (by omega) (by omega) (by omega) (by omega) (by omega) (by omega)) cb102 [0, 1] [(false, 0)] [0, 1] [] rfl rfl rfl rfl rfl rfl rfl rfl (fun _ _ => rfl) (fun _ _ _ => rfl) rfl (fun _ _ => ?_)
          refine r_nil ?_
          refine r_region ?_
          refine r_p (p_move rfl) rfl ?_
          refine r_p (p_bin rfl rfl (b_mul (by first | exact w_i64 (by omega) (by omega) | rfl))) rfl ?_
          refine r_p (p_assign rfl) rfl ?_
          refine r_nil ?_
          refine r_here (bs * 2, _) ⟨⟨by dsimp only; omega, by dsimp only; omega, ?_, ?_, g - 1, by dsimp only; omega, ?_⟩, by dsimp only; omega⟩ rfl rfl rfl
          · dsimp only
            first
              | (have h2 := (symM_both dE less (p := p) hc.dflt n ws a (a + bs) n hwv).1; exact h2.trans hwl)
              | exact hwl
          · dsimp only
            first
              | exact (symM_both dE less (p := p) hc.dflt n ws a (a + bs) n hwv).2
              | exact hwv
          · dsimp only
            rw [← hr3, levels_go dE less (by omega) hg, ← hr4, merges_done dE less (by omega), Nat.mul_comm 2 bs]
            first
              | (rw [if_pos (by omega)]; rfl)
              | (rw [if_neg (by omega)])
        · (try simp only [decide_eq_true_eq, decide_eq_false_iff_not, Bool.and_eq_true, Bool.or_eq_true, Bool.and_eq_false_iff, Bool.or_eq_false_iff, Bool.not_eq_true, Bool.not_eq_false, Bool.not_eq_true', Bool.not_eq_false', Bool.not_not, bne_iff_ne, beq_iff_eq] at h4)
          refine r_skip ?_
          refine r_region ?_
          refine r_p (p_move rfl) rfl ?_
          refine r_p (p_bin rfl rfl (b_mul (by first | exact w_i64 (by omega) (by omega) | rfl))) rfl ?_
          refine r_p (p_assign rfl) rfl ?_
          refine r_nil ?_
          refine r_here (bs * 2, _) ⟨⟨by dsimp only; omega, by dsimp only; omega, ?_, ?_, g - 1, by dsimp only; omega, ?_⟩, by dsimp only; omega⟩ rfl rfl rfl
          · dsimp only
            first
              | (have h2 := (symM_both dE less (p := p) hc.dflt n ws a (a + bs) n hwv).1; exact h2.trans hwl)
              | exact hwl
          · dsimp only
            first
              | exact (symM_both dE less (p := p) hc.dflt n ws a (a + bs) n hwv).2
              | exact hwv
          · dsimp only
            rw [← hr3, levels_go dE less (by omega) hg, ← hr4, merges_done dE less (by omega), Nat.mul_comm 2 bs]
            first
              | (rw [if_pos (by omega)]; rfl)
              | (rw [if_neg (by omega)])
    · (try simp only [decide_eq_true_eq, decide_eq_false_iff_not, Bool.and_eq_true, Bool.or_eq_true, Bool.and_eq_false_iff, Bool.or_eq_false_iff, Bool.not_eq_true, Bool.not_eq_false, Bool.not_eq_true', Bool.not_eq_false', Bool.not_not, bne_iff_ne, beq_iff_eq] at h2)
      rw [levels_done dE less (by omega)] at hr3
      refine r_exit ?_
      refine r_end () trivial rfl rs0 rfl [0, 1] [] rfl ?_ rfl
      rw [← hr3]
      rfl
set_option maxRecDepth 100000 in
theorem stablefn_specE (v : SV) (xs : List En) (hv : InP p xs) (hl : xs.length ≤ 1000) (hc : CmpOk nf caps A Bro veEnt p dE less) :
    Spec Try.prog 74 [sv v, .func (.func nf) #[] caps.toArray] [own 54 36 eEnt (sv v) xs, A] [Bro] (X := Unit) (fun _ => True) (fun _ => .tuple #[]) (fun _ => [own 54 36 eEnt (sv v) (stable dE less xs), A]) (fun _ => []) := by
  refine r_enter Try.func74 rfl Try.ntmps74 rfl fun w0 M H => ?_
  refine r_region ?_
  refine r_p (p_move rfl) rfl ?_
  refine r_p (p_move rfl) rfl ?_
  refine r_p (p_len_sl Try.underlying39 rfl (hs_own (k := 0) rfl)) rfl ?_
  refine r_p (p_move rfl) rfl ?_
  refine r_call (xs := [.tmp 4, .tmp 6, .tmp 7]) (stable_specE v xs xs.length rfl hv hl hc) cb92 [0, 1] [(false, 0)] [0, 1] [] rfl rfl rfl rfl rfl rfl rfl rfl (fun _ _ => rfl) (fun _ _ _ => rfl) rfl (fun _ _ => ?_)
  refine r_nil ?_
  refine r_end () trivial rfl rs0 rfl [0, 1] [] rfl rfl rfl
end

end Go.Proofs.Ytbkonlkffajhkaa
