/-
  The stable sort. Conditions as for comparing; at most a thousand elements.
-/
import Derived.Test.YtfdbkclbcajkiaaS5
import Derived.Test.YtfdbkclbcajkiaaKB
namespace Go.Proofs.Ytfdbkclbcajkiaa
set_option linter.unusedSimpArgs false
set_option linter.unusedVariables false
open Go.RowKit

theorem symm_i (u : Nat → Int) (hu : ∀ i, 0 ≤ u i ∧ u i ≤ 1000000) (f : Nat) (v : SV) (xs : List Int) (a m b : Int) (B : Nat) (hv : InV xs) (h0 : 0 ≤ a) (ha : a < m) (hb : m < b) (hbl : b ≤ xs.length) (hl : xs.length ≤ 1000) (hf : b - a ≤ f) :
    Spec Try.prog 47 [sv v, .int .i64 a, .int .i64 m, .int .i64 b, .func (.func 33) #[] #[.pointer (some ⟨B, 0, none⟩)]] [own 3 1 eI (sv v) xs, arr B 30 28 (vi u)] [] (X := Unit) (fun _ => True) (fun _ => .tuple #[]) (fun _ => [own 3 1 eI (sv v) (symM 0 (lessU u) f xs a.toNat m.toNat b.toNat), arr B 30 28 (vi u)]) (fun _ => []) := by
  obtain ⟨a, rfl⟩ := Int.eq_ofNat_of_zero_le (show 0 ≤ a by omega)
  obtain ⟨m, rfl⟩ := Int.eq_ofNat_of_zero_le (show 0 ≤ m by omega)
  obtain ⟨b, rfl⟩ := Int.eq_ofNat_of_zero_le (show 0 ≤ b by omega)
  simp only [Int.toNat_natCast]
  exact symm_spec u hu f v xs a m b B hv (by omega) (by omega) (by omega) hl (by omega)

theorem ins_i (u : Nat → Int) (hu : ∀ i, 0 ≤ u i ∧ u i ≤ 1000000) (f : Nat) (v : SV) (xs : List Int) (a b : Int) (B : Nat) (hv : InV xs) (h0 : 0 ≤ a) (ha : a ≤ b) (hbl : b ≤ xs.length) (hl : xs.length ≤ 1000) :
    Spec Try.prog 46 [sv v, .int .i64 a, .int .i64 b, .func (.func 33) #[] #[.pointer (some ⟨B, 0, none⟩)]] [own 3 1 eI (sv v) xs, arr B 30 28 (vi u)] [] (X := Unit) (fun _ => True) (fun _ => .tuple #[]) (fun _ => [own 3 1 eI (sv v) (insSort 0 (lessU u) xs a.toNat b.toNat), arr B 30 28 (vi u)]) (fun _ => []) := by
  obtain ⟨a, rfl⟩ := Int.eq_ofNat_of_zero_le (show 0 ≤ a by omega)
  obtain ⟨b, rfl⟩ := Int.eq_ofNat_of_zero_le (show 0 ≤ b by omega)
  simp only [Int.toNat_natCast]
  exact ins_spec v xs a b hv (by omega) (by omega) hl B u hu

set_option maxRecDepth 100000 in
theorem stable_spec (v : SV) (xs : List Int) (n : Nat) (hn : n = xs.length) (B : Nat) (u : Nat → Int) (hv : InV xs) (hl : xs.length ≤ 1000) (hu : ∀ i, 0 ≤ u i ∧ u i ≤ 1000000) :
    Spec Try.prog 41 [sv v, .int .i64 (n : Int), .func (.func 33) #[] #[.pointer (some ⟨B, 0, none⟩)]] [own 3 1 eI (sv v) xs, arr B 30 28 (vi u)] [] (X := Unit) (fun _ => True) (fun _ => .tuple #[]) (fun _ => [own 3 1 eI (sv v) (stable 0 (lessU u) xs), arr B 30 28 (vi u)]) (fun _ => []) := by
  refine r_enter Try.func41 rfl Try.ntmps41 rfl fun w0 M H => ?_
  refine r_seq ?_
  refine r_region ?_
  refine r_p (p_assign rfl) rfl ?_
  refine r_nil ?_
  refine r_seq ?_
  refine r_region ?_
  refine r_p (p_move rfl) rfl ?_
  refine r_p (p_assign rfl) rfl ?_
  refine r_p (p_assign rfl) rfl ?_
  refine r_nil ?_
  refine r_seq ?_
  refine r_block ?_
  refine r_loop (X := Nat × List Int) (fun x => x.1 ≤ n ∧ x.2.length = xs.length ∧ InV x.2 ∧ ∃ f, n ≤ x.1 + f ∧ blocks 0 (lessU u) 20 f x.2 x.1 n = blocks 0 (lessU u) 20 xs.length xs 0 xs.length) (fun x => [(0, sv v), (1, .int .i64 (n : Int)), (2, .func (.func 33) #[] #[.pointer (some ⟨B, 0, none⟩)]), (6, .int .i64 20), (7, .int .i64 (x.1 : Int)), (8, .int .i64 ((x.1 : Int) + 20))]) (fun x => [(0, own 3 1 eI (sv v) x.2), (1, arr B 30 28 (vi u))]) (fun x => []) (fun x => n - x.1) (0, xs) ⟨by dsimp only; omega, rfl, hv, n, by dsimp only; omega, by rw [hn]⟩ rfl rfl rfl (fun ⟨a, ys⟩ hx => ?_)
  obtain ⟨han, hyl, hyv, f, hf, hr⟩ := hx
  dsimp only at han hyl hyv hf hr ⊢
  refine r_seq ?_
  refine r_seq ?_
  refine r_region ?_
  refine r_p (p_move rfl) rfl ?_
  refine r_p (p_move rfl) rfl ?_
  refine r_p (p_bin rfl rfl b_le) rfl ?_
  refine r_nil ?_
  refine r_cond rfl (fun h1 => ?_) (fun h1 => ?_)
  · (try simp only [decide_eq_true_eq, decide_eq_false_iff_not, Bool.and_eq_true, Bool.or_eq_true, Bool.and_eq_false_iff, Bool.or_eq_false_iff, Bool.not_eq_true, Bool.not_eq_false, Bool.not_eq_true', Bool.not_eq_false', Bool.not_not, bne_iff_ne, beq_iff_eq] at h1)
    refine r_skip ?_
    refine r_block ?_
    refine r_seq ?_
    refine r_region ?_
    refine r_p (p_move rfl) rfl ?_
    refine r_p (p_move rfl) rfl ?_
    refine r_p (p_move rfl) rfl ?_
    refine r_p (p_move rfl) rfl ?_
    refine r_call (xs := [.tmp 14, .tmp 15, .tmp 16, .tmp 17]) (ins_i u hu 0 v ys a (a + 20) B hyv (by omega) (by omega) (by omega) (by omega)) cb46 [0, 1] [] [0, 1] [] rfl rfl rfl rfl rfl rfl rfl rfl (fun _ _ => rfl) (fun _ _ _ => rfl) rfl (fun _ _ => ?_)
    refine r_nil ?_
    refine r_seq ?_
    refine r_region ?_
    refine r_p (p_move rfl) rfl ?_
    refine r_p (p_assign rfl) rfl ?_
    refine r_nil ?_
    refine r_region ?_
    refine r_p (p_move rfl) rfl ?_
    refine r_p (p_move rfl) rfl ?_
    refine r_p (p_bin rfl rfl (b_add (by first | exact w_i64 (by omega) (by omega) | rfl))) rfl ?_
    refine r_p (p_assign rfl) rfl ?_
    refine r_nil ?_
    refine r_here (a + 20, _) ⟨⟨by dsimp only; omega, by dsimp only; exact (insSort_len 0 (lessU u) ys _ _).trans hyl, insSort_all 0 (lessU u) (by decide) hyv _ _, f - 1, by dsimp only; omega, ?_⟩, by dsimp only; omega⟩ rfl rfl rfl
    dsimp only
    rw [← hr, blocks_go 0 (lessU u) (bs := 20) (a := a) (by omega) hf (by omega)]
    rfl
  · (try simp only [decide_eq_true_eq, decide_eq_false_iff_not, Bool.and_eq_true, Bool.or_eq_true, Bool.and_eq_false_iff, Bool.or_eq_false_iff, Bool.not_eq_true, Bool.not_eq_false, Bool.not_eq_true', Bool.not_eq_false', Bool.not_not, bne_iff_ne, beq_iff_eq] at h1)
    refine r_exit ?_
    refine r_seq ?_
    refine r_region ?_
    refine r_p (p_move rfl) rfl ?_
    refine r_p (p_move rfl) rfl ?_
    refine r_p (p_move rfl) rfl ?_
    refine r_p (p_move rfl) rfl ?_
    refine r_call (xs := [.tmp 23, .tmp 24, .tmp 25, .tmp 26]) (ins_i u hu 0 v ys a n B hyv (by omega) (by omega) (by omega) (by omega)) cb46 [0, 1] [] [0, 1] [] rfl rfl rfl rfl rfl rfl rfl rfl (fun _ _ => rfl) (fun _ _ _ => rfl) rfl (fun _ _ => ?_)
    refine r_nil ?_
    refine r_block ?_
    refine r_loop (X := Nat × List Int) (fun x => 20 ≤ x.1 ∧ x.1 ≤ 100000 ∧ x.2.length = xs.length ∧ InV x.2 ∧ ∃ f, n ≤ x.1 + f ∧ levels 0 (lessU u) f x.1 x.2 n = stable 0 (lessU u) xs) (fun x => [(0, sv v), (1, .int .i64 (n : Int)), (2, .func (.func 33) #[] #[.pointer (some ⟨B, 0, none⟩)]), (6, .int .i64 (x.1 : Int))]) (fun x => [(0, own 3 1 eI (sv v) x.2), (1, arr B 30 28 (vi u))]) (fun x => []) (fun x => n - x.1) (20, _) ⟨Nat.le_refl _, by dsimp only; omega, by dsimp only; exact (insSort_len 0 (lessU u) ys _ _).trans hyl, insSort_all 0 (lessU u) (by decide) hyv _ _, n, by dsimp only; omega, ?_⟩ rfl rfl rfl (fun ⟨bs, zs⟩ hx3 => ?_)
    · dsimp only
      rw [stable, ← hr, blocks_done 0 (lessU u) (by omega), hn]
      rfl
    obtain ⟨hbs, hbs2, hzl, hzv, g, hg, hr3⟩ := hx3
    dsimp only at hbs hbs2 hzl hzv hg hr3 ⊢
    refine r_seq ?_
    refine r_seq ?_
    refine r_region ?_
    refine r_p (p_move rfl) rfl ?_
    refine r_p (p_move rfl) rfl ?_
    refine r_p (p_bin rfl rfl b_lt) rfl ?_
    refine r_nil ?_
    refine r_cond rfl (fun h2 => ?_) (fun h2 => ?_)
    · (try simp only [decide_eq_true_eq, decide_eq_false_iff_not, Bool.and_eq_true, Bool.or_eq_true, Bool.and_eq_false_iff, Bool.or_eq_false_iff, Bool.not_eq_true, Bool.not_eq_false, Bool.not_eq_true', Bool.not_eq_false', Bool.not_not, bne_iff_ne, beq_iff_eq] at h2)
      refine r_skip ?_
      refine r_block ?_
      refine r_seq ?_
      refine r_region ?_
      refine r_p (p_move rfl) rfl ?_
      refine r_p (p_bin rfl rfl (b_mul (by first | exact w_i64 (by omega) (by omega) | rfl))) rfl ?_
      refine r_p (p_assign rfl) rfl ?_
      refine r_p (p_assign rfl) rfl ?_
      refine r_nil ?_
      refine r_seq ?_
      refine r_block ?_
      refine r_loop (X := Nat × List Int) (fun x => x.2.length = xs.length ∧ InV x.2 ∧ x.1 ≤ n ∧ ∃ f, n ≤ x.1 + f ∧ merges 0 (lessU u) bs f x.2 x.1 n = merges 0 (lessU u) bs n zs 0 n) (fun x => [(0, sv v), (1, .int .i64 (n : Int)), (2, .func (.func 33) #[] #[.pointer (some ⟨B, 0, none⟩)]), (6, .int .i64 (bs : Int)), (7, .int .i64 (x.1 : Int)), (8, .int .i64 ((x.1 : Int) + 2 * bs))]) (fun x => [(0, own 3 1 eI (sv v) x.2), (1, arr B 30 28 (vi u))]) (fun x => []) (fun x => n - x.1) (0, zs) ⟨hzl, hzv, Nat.zero_le _, n, by dsimp only; omega, rfl⟩ (by simp [egets, evals, eget]; (repeat' apply And.intro) <;> rfl) rfl rfl (fun ⟨a, ws⟩ hx4 => ?_)
      obtain ⟨hwl, hwv, han2, f2, hf2, hr4⟩ := hx4
      dsimp only at hwl hwv han2 hf2 hr4 ⊢
      refine r_seq ?_
      refine r_seq ?_
      refine r_region ?_
      refine r_p (p_move rfl) rfl ?_
      refine r_p (p_move rfl) rfl ?_
      refine r_p (p_bin rfl rfl b_le) rfl ?_
      refine r_nil ?_
      refine r_cond rfl (fun h3 => ?_) (fun h3 => ?_)
      · (try simp only [decide_eq_true_eq, decide_eq_false_iff_not, Bool.and_eq_true, Bool.or_eq_true, Bool.and_eq_false_iff, Bool.or_eq_false_iff, Bool.not_eq_true, Bool.not_eq_false, Bool.not_eq_true', Bool.not_eq_false', Bool.not_not, bne_iff_ne, beq_iff_eq] at h3)
        refine r_skip ?_
        refine r_block ?_
        refine r_seq ?_
        refine r_region ?_
        refine r_p (p_move rfl) rfl ?_
        refine r_p (p_move rfl) rfl ?_
        refine r_p (p_move rfl) rfl ?_
        refine r_p (p_move rfl) rfl ?_
        refine r_p (p_bin rfl rfl (b_add (by first | exact w_i64 (by omega) (by omega) | rfl))) rfl ?_
        refine r_p (p_move rfl) rfl ?_
        refine r_p (p_move rfl) rfl ?_
        refine r_call (xs := [.tmp 36, .tmp 37, .tmp 40, .tmp 41, .tmp 42]) (symm_i u hu n v ws a (a + bs) (a + 2 * bs) B hwv (by omega) (by omega) (by omega) (by omega) (by omega) (by omega)) cb47 [0, 1] [] [0, 1] [] rfl rfl rfl rfl rfl rfl rfl rfl (fun _ _ => rfl) (fun _ _ _ => rfl) rfl (fun _ _ => ?_)
        refine r_nil ?_
        refine r_seq ?_
        refine r_region ?_
        refine r_p (p_move rfl) rfl ?_
        refine r_p (p_assign rfl) rfl ?_
        refine r_nil ?_
        refine r_region ?_
        refine r_p (p_move rfl) rfl ?_
        refine r_p (p_move rfl) rfl ?_
        refine r_p (p_bin rfl rfl (b_mul (by first | exact w_i64 (by omega) (by omega) | rfl))) rfl ?_
        refine r_p (p_bin rfl rfl (b_add (by first | exact w_i64 (by omega) (by omega) | rfl))) rfl ?_
        refine r_p (p_assign rfl) rfl ?_
        refine r_nil ?_
        refine r_here (a + 2 * bs, _) ⟨⟨by dsimp only; exact (symM_both 0 (lessU u) (p := fun x => 0 ≤ x ∧ x < 28) (by decide) n ws a (a + bs) (a + 2 * bs) hwv).1.trans hwl, (symM_both 0 (lessU u) (p := fun x => 0 ≤ x ∧ x < 28) (by decide) n ws a (a + bs) (a + 2 * bs) hwv).2, by dsimp only; omega, f2 - 1, by dsimp only; omega, ?_⟩, by dsimp only; omega⟩ rfl rfl rfl
        dsimp only
        rw [← hr4, merges_go 0 (lessU u) (by omega) hf2 (by omega)]
      · (try simp only [decide_eq_true_eq, decide_eq_false_iff_not, Bool.and_eq_true, Bool.or_eq_true, Bool.and_eq_false_iff, Bool.or_eq_false_iff, Bool.not_eq_true, Bool.not_eq_false, Bool.not_eq_true', Bool.not_eq_false', Bool.not_not, bne_iff_ne, beq_iff_eq] at h3)
        refine r_exit ?_
        refine r_seq ?_
        refine r_seq ?_
        refine r_region ?_
        refine r_p (p_move rfl) rfl ?_
        refine r_p (p_move rfl) rfl ?_
        refine r_p (p_bin rfl rfl (b_add (by first | exact w_i64 (by omega) (by omega) | rfl))) rfl ?_
        refine r_p (p_assign rfl) rfl ?_
        refine r_nil ?_
        refine r_seq ?_
        refine r_region ?_
        refine r_p (p_move rfl) rfl ?_
        refine r_p (p_move rfl) rfl ?_
        refine r_p (p_bin rfl rfl b_lt) rfl ?_
        refine r_nil ?_
        refine r_cond rfl (fun h4 => ?_) (fun h4 => ?_)
        · (try simp only [decide_eq_true_eq, decide_eq_false_iff_not, Bool.and_eq_true, Bool.or_eq_true, Bool.and_eq_false_iff, Bool.or_eq_false_iff, Bool.not_eq_true, Bool.not_eq_false, Bool.not_eq_true', Bool.not_eq_false', Bool.not_not, bne_iff_ne, beq_iff_eq] at h4)
          refine r_region ?_
          refine r_p (p_move rfl) rfl ?_
          refine r_p (p_move rfl) rfl ?_
          refine r_p (p_move rfl) rfl ?_
          refine r_p (p_move rfl) rfl ?_
          refine r_p (p_move rfl) rfl ?_
          refine r_call (xs := [.tmp 55, .tmp 56, .tmp 57, .tmp 58, .tmp 59]) (symm_i u hu n v ws a (a + bs) n B hwv (by omega) (by omega) (by omega) (by omega) (by omega) (by omega)) cb47 [0, 1] [] [0, 1] [] rfl rfl rfl rfl rfl rfl rfl rfl (fun _ _ => rfl) (fun _ _ _ => rfl) rfl (fun _ _ => ?_)
          refine r_nil ?_
          refine r_region ?_
          refine r_p (p_move rfl) rfl ?_
          refine r_p (p_bin rfl rfl (b_mul (by first | exact w_i64 (by omega) (by omega) | rfl))) rfl ?_
          refine r_p (p_assign rfl) rfl ?_
          refine r_nil ?_
          refine r_here (bs * 2, _) ⟨⟨by dsimp only; omega, by dsimp only; omega, ?_, ?_, g - 1, by dsimp only; omega, ?_⟩, by dsimp only; omega⟩ rfl rfl rfl
          · dsimp only
            first
              | (have h2 := (symM_both 0 (lessU u) (p := fun x => 0 ≤ x ∧ x < 28) (by decide) n ws a (a + bs) n hwv).1; exact h2.trans hwl)
              | exact hwl
          · dsimp only
            first
              | exact (symM_both 0 (lessU u) (p := fun x => 0 ≤ x ∧ x < 28) (by decide) n ws a (a + bs) n hwv).2
              | exact hwv
          · dsimp only
            rw [← hr3, levels_go 0 (lessU u) (by omega) hg, ← hr4, merges_done 0 (lessU u) (by omega), Nat.mul_comm 2 bs]
            first
              | (rw [if_pos (by omega)]; rfl)
              | (rw [if_neg (by omega)])
        · (try simp only [decide_eq_true_eq, decide_eq_false_iff_not, Bool.and_eq_true, Bool.or_eq_true, Bool.and_eq_false_iff, Bool.or_eq_false_iff, Bool.not_eq_true, Bool.not_eq_false, Bool.not_eq_true', Bool.not_eq_false', Bool.not_not, bne_iff_ne, beq_iff_eq] at h4)
          refine r_skip ?_
          refine r_region ?_
          refine r_p (p_move rfl) rfl ?_
          refine r_p (p_bin rfl rfl (b_mul (by first | exact w_i64 (by omega) (by omega) | rfl))) rfl ?_
          refine r_p (p_assign rfl) rfl ?_
          refine r_nil ?_
          refine r_here (bs * 2, _) ⟨⟨by dsimp only; omega, by dsimp only; omega, ?_, ?_, g - 1, by dsimp only; omega, ?_⟩, by dsimp only; omega⟩ rfl rfl rfl
          · dsimp only
            first
              | (have h2 := (symM_both 0 (lessU u) (p := fun x => 0 ≤ x ∧ x < 28) (by decide) n ws a (a + bs) n hwv).1; exact h2.trans hwl)
              | exact hwl
          · dsimp only
            first
              | exact (symM_both 0 (lessU u) (p := fun x => 0 ≤ x ∧ x < 28) (by decide) n ws a (a + bs) n hwv).2
              | exact hwv
          · dsimp only
            rw [← hr3, levels_go 0 (lessU u) (by omega) hg, ← hr4, merges_done 0 (lessU u) (by omega), Nat.mul_comm 2 bs]
            first
              | (rw [if_pos (by omega)]; rfl)
              | (rw [if_neg (by omega)])
    · (try simp only [decide_eq_true_eq, decide_eq_false_iff_not, Bool.and_eq_true, Bool.or_eq_true, Bool.and_eq_false_iff, Bool.or_eq_false_iff, Bool.not_eq_true, Bool.not_eq_false, Bool.not_eq_true', Bool.not_eq_false', Bool.not_not, bne_iff_ne, beq_iff_eq] at h2)
      rw [levels_done 0 (lessU u) (by omega)] at hr3
      refine r_exit ?_
      refine r_end () trivial rfl rs0 rfl [0, 1] [] rfl ?_ rfl
      rw [← hr3]
      rfl
set_option maxRecDepth 100000 in
theorem stablefn_spec (v : SV) (xs : List Int) (B : Nat) (u : Nat → Int) (hv : InV xs) (hl : xs.length ≤ 1000) (hu : ∀ i, 0 ≤ u i ∧ u i ≤ 1000000) :
    Spec Try.prog 32 [sv v, .func (.func 33) #[] #[.pointer (some ⟨B, 0, none⟩)]] [own 3 1 eI (sv v) xs, arr B 30 28 (vi u)] [] (X := Unit) (fun _ => True) (fun _ => .tuple #[]) (fun _ => [own 3 1 eI (sv v) (stable 0 (lessU u) xs), arr B 30 28 (vi u)]) (fun _ => []) := by
  refine r_enter Try.func32 rfl Try.ntmps32 rfl fun w0 M H => ?_
  refine r_region ?_
  refine r_p (p_move rfl) rfl ?_
  refine r_p (p_move rfl) rfl ?_
  refine r_p (p_len_sl Try.underlying22 rfl (hs_own (k := 0) rfl)) rfl ?_
  refine r_p (p_move rfl) rfl ?_
  refine r_call (xs := [.tmp 4, .tmp 6, .tmp 7]) (stable_spec v xs xs.length rfl B u hv hl hu) cb41 [0, 1] [] [0, 1] [] rfl rfl rfl rfl rfl rfl rfl rfl (fun _ _ => rfl) (fun _ _ _ => rfl) rfl (fun _ _ => ?_)
  refine r_nil ?_
  refine r_end () trivial rfl rs0 rfl [0, 1] [] rfl rfl rfl

end Go.Proofs.Ytfdbkclbcajkiaa
