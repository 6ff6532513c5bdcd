/-
  The walk of the law QcodeUnused: it answers true. No condition.
-/
import Derived.Test.YtdoanneelnelbaaV2
import Derived.Test.YtdoanneelnelbaaM
namespace Go.Proofs.Ytdoanneelnelbaa
set_option linter.unusedSimpArgs false
set_option linter.unusedVariables false
open Go.RowKit

attribute [local go_sem] cell_set

theorem dec_no8 (V : Int) (h : decOk V = false) : decV V = ⟨0, 0, 0, 0, 0⟩ ∧ decE V = 12 := by
  unfold decV decE
  rw [h]
  exact ⟨rfl, rfl⟩
theorem dec_yes (V : Int) (h : decOk V = true) : decV V = decI V ∧ decE V = 0 := by
  unfold decV decE
  rw [h]
  exact ⟨rfl, rfl⟩
theorem decI_imm (V : Int) : 0 ≤ (decI V).imm ∧ (decI V).imm < 4294967296 := by
  unfold decI
  rcases formOf_cases (V / 67108864) with h | h | h | h | h | h | h | h | h | h | h
  all_goals
    rw [h]
    simp only [if_true, Bool.false_eq_true, if_false, pw0, pw18, pw22]
    first | omega | exact sgn_bd _ _ (.inl rfl) | exact sgn_bd _ _ (.inr rfl)

set_option maxHeartbeats 2000000 in
theorem unused_no (op : Int) (k : Nat) (hk : k < 26) (W : Int) (hop : W / 67108864 = op) (hbit : W / 2 ^ k % 2 = 1) (hm : unusedR op / 2 ^ k % 2 = 1) : decOk W = false := by
  cases hok : decOk W
  · rfl
  exfalso
  obtain ⟨hv, he⟩ := decOk_word W hok
  have hf := validR_facts _ hv
  unfold encW wordR at he
  rw [if_pos hv] at he
  have ho : (decI W).op = op := by rw [dec_op, hop]
  rw [ho] at hf he
  clear hok hv hop ho
  generalize decI W = j at *
  obtain ⟨_, _, d0, d1, a0, a1, b0, b1, dz, az, bz, hs, _⟩ := hf
  unfold unusedR at hm
  obtain ⟨jop, d, a, b, m⟩ := j
  simp only at *
  rcases formOf_cases op with h | h | h | h | h | h | h | h | h | h | h
  all_goals
    rw [h] at he hm dz az bz hs
    simp [pw] at he hm dz az bz hs
  all_goals
    clear h
    have hk' : k = 0 ∨ k = 1 ∨ k = 2 ∨ k = 3 ∨ k = 4 ∨ k = 5 ∨ k = 6 ∨ k = 7 ∨ k = 8 ∨ k = 9 ∨ k = 10 ∨ k = 11 ∨ k = 12 ∨ k = 13 ∨ k = 14 ∨ k = 15 ∨ k = 16 ∨ k = 17 ∨ k = 18 ∨ k = 19 ∨ k = 20 ∨ k = 21 ∨ k = 22 ∨ k = 23 ∨ k = 24 ∨ k = 25 := by omega
    rcases hk' with rfl | rfl | rfl | rfl | rfl | rfl | rfl | rfl | rfl | rfl | rfl | rfl | rfl | rfl | rfl | rfl | rfl | rfl | rfl | rfl | rfl | rfl | rfl | rfl | rfl | rfl <;> first | (revert hm; decide; done) | omega
theorem or_bit (w k : Nat) : (w ||| 2 ^ k) / 2 ^ k % 2 = 1 := by
  rw [← Nat.shiftRight_eq_div_pow, Nat.shiftRight_or_distrib]
  simp [Nat.shiftRight_eq_div_pow, Nat.div_self (Nat.two_pow_pos k)]
theorem or_high (w k : Nat) (hk : k < 26) : (w ||| 2 ^ k) / 67108864 = w / 67108864 := by
  have e : (67108864 : Nat) = 2 ^ 26 := rfl
  rw [e, ← Nat.shiftRight_eq_div_pow, ← Nat.shiftRight_eq_div_pow, Nat.shiftRight_or_distrib]
  have : 2 ^ k >>> 26 = 0 := by rw [Nat.shiftRight_eq_div_pow]; exact Nat.div_eq_of_lt (Nat.pow_lt_pow_right (by omega) hk)
  rw [this]; simp

theorem unused_bd (op : Int) : 0 ≤ unusedR op ∧ unusedR op < 4294967296 := by
  unfold unusedR
  rcases formOf_cases op with h | h | h | h | h | h | h | h | h | h | h <;> rw [h] <;> simp [pw]

theorem and_one (X : Int) (h0 : 0 ≤ X) (h1 : X < 4294967296) : bits .and .u32 X 1 = X % 2 := by
  obtain ⟨a, rfl⟩ := Int.eq_ofNat_of_zero_le h0
  rw [u32_and _ _ h0 h1 (by omega) (by omega)]
  simp only [Int.toNat_natCast, show (1 : Int).toNat = 1 from rfl]
  rw [Nat.and_one_is_mod]; omega

theorem pow_lt26 (k : Nat) (hk : k < 26) : (2 : Int) ^ k < 67108864 := by
  have h : (2 : Nat) ^ k < 2 ^ 26 := Nat.pow_lt_pow_right (by omega) hk
  have e : ((2 : Nat) ^ 26) = 67108864 := rfl
  rw [e] at h
  have := Int.ofNat_lt.2 h
  simpa using this
theorem pow_pos' (k : Nat) : (0 : Int) < (2 : Int) ^ k := Int.pow_pos (by omega)

/-- A word with one more bit set, at a place below 26. -/
theorem or_word (X : Int) (h0 : 0 ≤ X) (h1 : X < 4294967296) (k : Nat) (hk : k < 26) : 0 ≤ bits .or .u32 X (2 ^ k % 4294967296) ∧ bits .or .u32 X (2 ^ k % 4294967296) < 4294967296 ∧
    bits .or .u32 X (2 ^ k % 4294967296) / 67108864 = X / 67108864 ∧ bits .or .u32 X (2 ^ k % 4294967296) / 2 ^ k % 2 = 1 := by
  obtain ⟨a, rfl⟩ := Int.eq_ofNat_of_zero_le h0
  have hp := pow_lt26 k hk
  have hq := pow_pos' k
  rw [Int.emod_eq_of_lt (by omega) (by omega), u32_or _ _ h0 h1 (by omega) (by omega)]
  have e : ((2 : Int) ^ k).toNat = 2 ^ k := by
    have : (2 : Int) ^ k = ((2 ^ k : Nat) : Int) := by simp
    rw [this, Int.toNat_natCast]
  rw [e, Int.toNat_natCast]
  have h2 := or_high a k hk
  have h3 := or_bit a k
  have h4 : (a ||| 2 ^ k) < 2 ^ 32 := Nat.or_lt_two_pow (by omega) (Nat.pow_lt_pow_right (by omega) (by omega))
  refine ⟨by omega, by omega, by omega, ?_⟩
  have : ((a ||| 2 ^ k : Nat) : Int) / 2 ^ k % 2 = (((a ||| 2 ^ k) / 2 ^ k % 2 : Nat) : Int) := by simp
  rw [this, h3]; rfl

set_option maxHeartbeats 1000000 in
theorem unused_walk (n0 n1 n2 n3 n4 : Int) (w : World) :
    Calls Try.prog 8 #[.agg #[.int .i64 n0, .int .i64 n1, .int .i64 n2, .int .i64 n3, .int .i64 n4]] w fun e w' => e = .returned (.bool true) ∧ Below w.heap.size w w' := by
  have hM := madeR_imm n0 n1 n2 n3 n4
  have hv := made_valid n0 n1 n2 n3 n4
  have hG := made_any n0 n1 n2 n3 n4
  have hE := fun w => enc_any (madeR n0 n1 n2 n3 n4) w hM.1 hM.2
  rw [encE_of hv, encW_of hv] at hE
  have hU := unused_any (madeR n0 n1 n2 n3 n4).op
  generalize madeR n0 n1 n2 n3 n4 = M at *
  have HG := Lib.hid hG
  have HE := Lib.hid hE
  have HU := Lib.hid hU
  clear hG hE hU
  obtain ⟨hdi, hw0, hw1⟩ := dec_enc _ hv hM.1 hM.2
  have hopw : wordR M / 67108864 = M.op := by rw [← dec_op, hdi]
  clear hdi
  go_enter Try.func8, Try.ntmps8
  go_wp2_with fail
  refine (sanity_any _).mono ?_
  rintro e w1 ⟨rfl, hb1⟩
  obtain ⟨hc1, hf1⟩ := bcell hb1
  have hz1 := grew hb1
  go_wp2_with fail
  refine (HG.out _).mono ?_
  rintro e w2 ⟨rfl, hb2⟩
  clear hc1 hf1
  go_wp2_with fail
  refine (HE.out _).mono ?_
  rintro e w3 ⟨rfl, hb3⟩
  obtain ⟨hc3, hf3⟩ := bcell hb3
  have hz3 := grew hb3
  go_wp2_with fail
  refine (HU.out _).mono ?_
  rintro e w4 ⟨rfl, hb4⟩
  have hb : Below w.heap.size w w4 := (by repeat' (first | with_reducible exact Below.refl _ _ | with_reducible refine below_alloc ?_ _ | with_reducible refine below_drew ?_ | with_reducible refine below_drewN ?_ _ | with_reducible refine below_set ?_ (by first | exact Nat.le_refl _ | (simp <;> omega)) _ | with_reducible refine below_call ?_ (by assumption)))
  clear hb1 hb2 hb3 hb4 hc3 hf3 hz1 hz3
  go_wp2_with fail
  go_loopw [8] (fun i wr => ∃ k : Nat, k ≤ 26 ∧ i = .int .i64 k ∧ Below w.heap.size w wr) (fun i _ => 26 - (intOf i).toNat)
  case atStart => exact ⟨0, by omega, rfl, hb⟩
  case round =>
    clear hb
    obtain ⟨k, hk, rfl, hb⟩ := hrel
    by_cases hlt : k < 26
    · have hk0 : (0 : Int) ≤ (k : Int) := by omega
      have hk3 : (k : Int) < 26 := by omega
      have hub := unused_bd M.op
      have hwd := or_word (wordR M) hw0 hw1 k hlt
      have hA := and_one (unusedR M.op / 2 ^ k) (Int.ediv_nonneg hub.1 (by have := pow_pos' k; omega)) (Int.lt_of_le_of_lt (Int.ediv_le_self _ hub.1) hub.2)
      have hno := fun hm => unused_no M.op k hlt (bits .or .u32 (wordR M) (2 ^ k % 4294967296)) (by rw [hwd.2.2.1, hopw]) hwd.2.2.2 hm
      have h01 : unusedR M.op / 2 ^ k % 2 = 0 ∨ unusedR M.op / 2 ^ k % 2 = 1 := by omega
      rcases h01 with h01 | h01
      · rw [h01] at hA
        clear hno hwd hub h01
        go_wp2
        go_roundw
        case rel => exact ⟨k + 1, by omega, by go_num, hb⟩
        case measure => simp [intOf]; omega
      · rw [h01] at hA
        have hok := hno h01
        have hD := fun w => dec_any (bits .or .u32 (wordR M) (2 ^ k % 4294967296)) hwd.1 hwd.2.1 w
        rw [(dec_no8 _ hok).1, (dec_no8 _ hok).2] at hD
        have HD := Lib.hid hD
        clear hD hno hwd hub h01 hok
        go_wp2_with fail
        refine (HD.out _).mono ?_
        rintro e v1 ⟨rfl, hbv1⟩
        have hb5 : Below w.heap.size w v1 := (by repeat' (first | with_reducible exact Below.refl _ _ | with_reducible refine below_alloc ?_ _ | with_reducible refine below_drew ?_ | with_reducible refine below_drewN ?_ _ | with_reducible refine below_set ?_ (by first | exact Nat.le_refl _ | (simp <;> omega)) _ | with_reducible refine below_call ?_ (by assumption)))
        clear hb hbv1
        go_wp2
        go_roundw
        case rel => exact ⟨k + 1, by omega, by go_num, below_alloc hb5 _⟩
        case measure => simp [intOf]; omega
    · obtain rfl : k = 26 := by omega
      go_wp2
      go_ret
      exact ⟨rfl, hb⟩

end Go.Proofs.Ytdoanneelnelbaa
