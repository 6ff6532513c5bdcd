/-
  Exchanging two neighbouring blocks. No condition beyond the places.
-/
import Derived.Test.YtfdbkclbcajkiaaS2
namespace Go.Proofs.Ytfdbkclbcajkiaa
set_option linter.unusedSimpArgs false
set_option linter.unusedVariables false
open Go.RowKit

theorem swapr_i (v : SV) (xs : List Int) (a b n : Int) (h0a : 0 ≤ a) (h0b : 0 ≤ b) (h0n : 0 ≤ n) (ha : a + n ≤ xs.length) (hb : b + n ≤ xs.length) (hl : xs.length ≤ 1000) (B : Nat) (u : Nat → Int) :
    Spec Try.prog 66 [sv v, .int .i64 a, .int .i64 b, .int .i64 n, .func (.func 33) #[] #[.pointer (some ⟨B, 0, none⟩)]] [own 3 1 eI (sv v) xs, arr B 30 28 (vi u)] [] (X := Unit) (fun _ => True) (fun _ => .tuple #[]) (fun _ => [own 3 1 eI (sv v) (swapR 0 xs a.toNat b.toNat n.toNat 0), arr B 30 28 (vi u)]) (fun _ => []) := by
  obtain ⟨a, rfl⟩ := Int.eq_ofNat_of_zero_le h0a
  obtain ⟨b, rfl⟩ := Int.eq_ofNat_of_zero_le h0b
  obtain ⟨n, rfl⟩ := Int.eq_ofNat_of_zero_le h0n
  have h := swapr_spec v xs a b n (by omega) (by omega) hl B u
  simp only [Int.toNat_natCast] at *
  exact h

set_option maxRecDepth 100000 in
theorem rot_spec (v : SV) (xs : List Int) (a m b : Nat) (ha : a < m) (hb : m < b) (hbl : b ≤ xs.length) (hl : xs.length ≤ 1000) (B : Nat) (u : Nat → Int) :
    Spec Try.prog 59 [sv v, .int .i64 (a : Int), .int .i64 (m : Int), .int .i64 (b : Int), .func (.func 33) #[] #[.pointer (some ⟨B, 0, none⟩)]] [own 3 1 eI (sv v) xs, arr B 30 28 (vi u)] [] (X := Unit) (fun _ => True) (fun _ => .tuple #[]) (fun _ => [own 3 1 eI (sv v) (rot 0 (b - a) xs m (m - a) (b - m)), arr B 30 28 (vi u)]) (fun _ => []) := by
  refine r_enter Try.func59 rfl Try.ntmps59 rfl fun w0 M H => ?_
  refine r_seq ?_
  refine r_region ?_
  refine r_p (p_move rfl) rfl ?_
  refine r_p (p_move rfl) rfl ?_
  refine r_p (p_bin rfl rfl (b_sub (by first | exact w_i64 (by omega) (by omega) | rfl))) rfl ?_
  refine r_p (p_assign rfl) rfl ?_
  refine r_nil ?_
  refine r_seq ?_
  refine r_region ?_
  refine r_p (p_move rfl) rfl ?_
  refine r_p (p_move rfl) rfl ?_
  refine r_p (p_bin rfl rfl (b_sub (by first | exact w_i64 (by omega) (by omega) | rfl))) rfl ?_
  refine r_p (p_assign rfl) rfl ?_
  refine r_nil ?_
  refine r_seq ?_
  refine r_block ?_
  refine r_loop (X := Nat × Nat × List Int) (fun x => 1 ≤ x.1 ∧ 1 ≤ x.2.1 ∧ x.1 ≤ m - a ∧ x.2.1 ≤ b - m ∧ x.2.2.length = xs.length ∧ ∃ f, x.1 + x.2.1 ≤ f + 1 ∧ rot 0 (f + 1) x.2.2 m x.1 x.2.1 = rot 0 (b - a) xs m (m - a) (b - m)) (fun x => [(0, sv v), (2, .int .i64 (m : Int)), (4, .func (.func 33) #[] #[.pointer (some ⟨B, 0, none⟩)]), (10, .int .i64 (x.1 : Int)), (11, .int .i64 (x.2.1 : Int))]) (fun x => [(0, own 3 1 eI (sv v) x.2.2), (1, arr B 30 28 (vi u))]) (fun x => []) (fun x => x.1 + x.2.1) (m - a, b - m, xs) ⟨by dsimp only; omega, by dsimp only; omega, Nat.le_refl _, Nat.le_refl _, rfl, b - a - 1, by dsimp only; omega, by rw [show b - a - 1 + 1 = b - a by omega]⟩ (by rw [show ((m - a : Nat) : Int) = m - a by omega, show ((b - m : Nat) : Int) = b - m by omega]; rfl) rfl rfl (fun ⟨i, j, ys⟩ hx => ?_)
  obtain ⟨hi, hj, him, hjb, hy, f, hf, hr⟩ := hx
  dsimp only at hi hj him hjb hy hf hr ⊢
  refine r_seq ?_
  refine r_seq ?_
  refine r_region ?_
  refine r_p (p_move rfl) rfl ?_
  refine r_p (p_move rfl) rfl ?_
  refine r_p (p_bin rfl rfl b_ne) rfl ?_
  refine r_nil ?_
  refine r_cond rfl (fun h1 => ?_) (fun h1 => ?_)
  · (try simp only [decide_eq_true_eq, decide_eq_false_iff_not, Bool.and_eq_true, Bool.or_eq_true, Bool.and_eq_false_iff, Bool.or_eq_false_iff, Bool.not_eq_true, Bool.not_eq_false, Bool.not_eq_true', Bool.not_eq_false', Bool.not_not, bne_iff_ne, beq_iff_eq] at h1)
    have hne : i ≠ j := by omega
    refine r_skip ?_
    refine r_block ?_
    refine r_seq ?_
    refine r_region ?_
    refine r_p (p_move rfl) rfl ?_
    refine r_p (p_move rfl) rfl ?_
    refine r_p (p_bin rfl rfl b_gt) rfl ?_
    refine r_nil ?_
    refine r_cond rfl (fun h2 => ?_) (fun h2 => ?_)
    · (try simp only [decide_eq_true_eq, decide_eq_false_iff_not, Bool.and_eq_true, Bool.or_eq_true, Bool.and_eq_false_iff, Bool.or_eq_false_iff, Bool.not_eq_true, Bool.not_eq_false, Bool.not_eq_true', Bool.not_eq_false', Bool.not_not, bne_iff_ne, beq_iff_eq] at h2)
      refine r_seq ?_
      refine r_region ?_
      refine r_p (p_move rfl) rfl ?_
      refine r_p (p_move rfl) rfl ?_
      refine r_p (p_move rfl) rfl ?_
      refine r_p (p_bin rfl rfl (b_sub (by first | exact w_i64 (by omega) (by omega) | rfl))) rfl ?_
      refine r_p (p_move rfl) rfl ?_
      refine r_p (p_move rfl) rfl ?_
      refine r_p (p_move rfl) rfl ?_
      refine r_call (xs := [.tmp 24, .tmp 27, .tmp 28, .tmp 29, .tmp 30]) (swapr_i v ys (m - i) m j (by omega) (by omega) (by omega) (by omega) (by omega) (by omega) B u) cb66 [0, 1] [] [0, 1] [] rfl rfl rfl rfl rfl rfl rfl rfl (fun _ _ => rfl) (fun _ _ _ => rfl) rfl (fun _ _ => ?_)
      refine r_nil ?_
      refine r_region ?_
      refine r_p (p_move rfl) rfl ?_
      refine r_p (p_move rfl) rfl ?_
      refine r_p (p_bin rfl rfl (b_sub (by first | exact w_i64 (by omega) (by omega) | rfl))) rfl ?_
      refine r_p (p_assign rfl) rfl ?_
      refine r_nil ?_
      refine r_here (i - j, j, _) ⟨⟨by dsimp only; omega, by dsimp only; omega, by dsimp only; omega, by dsimp only; omega, ?_, ?_⟩, by dsimp only; omega⟩ (by rw [show ((i - j : Nat) : Int) = i - j by omega]; rfl) rfl rfl
      · simp only [swapR_len, hy]
      · refine ⟨f - 1, by dsimp only; omega, ?_⟩
        dsimp only
        rw [← hr, rot_gt 0 (f := f) (xs := ys) (i := i) (j := j) (by omega), show f - 1 + 1 = f by omega, show ((m : Int) - i).toNat = m - i by omega]
        rfl
    · (try simp only [decide_eq_true_eq, decide_eq_false_iff_not, Bool.and_eq_true, Bool.or_eq_true, Bool.and_eq_false_iff, Bool.or_eq_false_iff, Bool.not_eq_true, Bool.not_eq_false, Bool.not_eq_true', Bool.not_eq_false', Bool.not_not, bne_iff_ne, beq_iff_eq] at h2)
      refine r_seq ?_
      refine r_region ?_
      refine r_p (p_move rfl) rfl ?_
      refine r_p (p_move rfl) rfl ?_
      refine r_p (p_move rfl) rfl ?_
      refine r_p (p_bin rfl rfl (b_sub (by first | exact w_i64 (by omega) (by omega) | rfl))) rfl ?_
      refine r_p (p_move rfl) rfl ?_
      refine r_p (p_move rfl) rfl ?_
      refine r_p (p_bin rfl rfl (b_add (by first | exact w_i64 (by omega) (by omega) | rfl))) rfl ?_
      refine r_p (p_move rfl) rfl ?_
      refine r_p (p_bin rfl rfl (b_sub (by first | exact w_i64 (by omega) (by omega) | rfl))) rfl ?_
      refine r_p (p_move rfl) rfl ?_
      refine r_p (p_move rfl) rfl ?_
      refine r_call (xs := [.tmp 35, .tmp 38, .tmp 43, .tmp 44, .tmp 45]) (swapr_i v ys (m - i) (m + j - i) i (by omega) (by omega) (by omega) (by omega) (by omega) (by omega) B u) cb66 [0, 1] [] [0, 1] [] rfl rfl rfl rfl rfl rfl rfl rfl (fun _ _ => rfl) (fun _ _ _ => rfl) rfl (fun _ _ => ?_)
      refine r_nil ?_
      refine r_region ?_
      refine r_p (p_move rfl) rfl ?_
      refine r_p (p_move rfl) rfl ?_
      refine r_p (p_bin rfl rfl (b_sub (by first | exact w_i64 (by omega) (by omega) | rfl))) rfl ?_
      refine r_p (p_assign rfl) rfl ?_
      refine r_nil ?_
      refine r_here (i, j - i, _) ⟨⟨by dsimp only; omega, by dsimp only; omega, by dsimp only; omega, by dsimp only; omega, ?_, ?_⟩, by dsimp only; omega⟩ (by rw [show ((j - i : Nat) : Int) = j - i by omega]; rfl) rfl rfl
      · simp only [swapR_len, hy]
      · refine ⟨f - 1, by dsimp only; omega, ?_⟩
        dsimp only
        rw [← hr, rot_lt 0 (f := f) (xs := ys) (i := i) (j := j) (by omega), show f - 1 + 1 = f by omega, show ((m : Int) - i).toNat = m - i by omega, show ((m : Int) + j - i).toNat = m + j - i by omega]
        rfl
  · (try simp only [decide_eq_true_eq, decide_eq_false_iff_not, Bool.and_eq_true, Bool.or_eq_true, Bool.and_eq_false_iff, Bool.or_eq_false_iff, Bool.not_eq_true, Bool.not_eq_false, Bool.not_eq_true', Bool.not_eq_false', Bool.not_not, bne_iff_ne, beq_iff_eq] at h1)
    have hij : i = j := by omega
    refine r_exit ?_
    refine r_region ?_
    refine r_p (p_move rfl) rfl ?_
    refine r_p (p_move rfl) rfl ?_
    refine r_p (p_move rfl) rfl ?_
    refine r_p (p_bin rfl rfl (b_sub (by first | exact w_i64 (by omega) (by omega) | rfl))) rfl ?_
    refine r_p (p_move rfl) rfl ?_
    refine r_p (p_move rfl) rfl ?_
    refine r_p (p_move rfl) rfl ?_
    refine r_call (xs := [.tmp 50, .tmp 53, .tmp 54, .tmp 55, .tmp 56]) (swapr_i v ys (m - i) m i (by omega) (by omega) (by omega) (by omega) (by omega) (by omega) B u) cb66 [0, 1] [] [0, 1] [] rfl rfl rfl rfl rfl rfl rfl rfl (fun _ _ => rfl) (fun _ _ _ => rfl) rfl (fun _ _ => ?_)
    refine r_nil ?_
    refine r_end () trivial rfl rs0 rfl [0, 1] [] rfl ?_ rfl
    rw [← hr, rot_eq 0 hij, show ((m : Int) - i).toNat = m - i by omega]
    rfl

end Go.Proofs.Ytfdbkclbcajkiaa
