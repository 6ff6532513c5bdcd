/-
  What the reference of Encode computes. Condition: the immediate is a word.
-/
import Derived.Test.YtdoanneelnelbaaU3
import Derived.Test.YtdoanneelnelbaaX0
namespace Go.Proofs.Ytdoanneelnelbaa
set_option linter.unusedSimpArgs false
set_option linter.unusedVariables false
open Go.RowKit

attribute [local go_sem] cell_set

theorem sgn_bd (n bits : Int) (h : bits = 18 ∨ bits = 22) : 0 ≤ sgn n bits ∧ sgn n bits < 4294967296 := by
  unfold sgn pw
  rcases h with rfl | rfl <;> simp <;> split <;> omega

set_option maxHeartbeats 1000000 in
theorem decRef_0 (w0 : Int) (h0 : 0 ≤ w0) (h1 : w0 < 4294967296) (hff : formOf (w0 / 67108864) = ⟨true, true, true, true, false, 0, 0⟩) (w : World) :
    Calls Try.prog 24 #[.int .u32 w0] w fun e w' => e = .returned (.tuple #[.agg #[.int .i64 (decV w0).op, .int .i64 (decV w0).d, .int .i64 (decV w0).a, .int .i64 (decV w0).b, .int .u32 (decV w0).imm], .int .i64 (decE w0)]) ∧ Below w.heap.size w w' := by
  have hO := of_any (w0 / 67108864)
  have hi : decI w0 = ⟨w0 / 67108864, w0 / 4194304 % 16, w0 / 262144 % 16, w0 / 16384 % 16, 0⟩ := by unfold decI; rw [hff]; first | rfl | (simp [pw0]; done) | simp [pw0, pw18, pw22]
  have hE := encRef_any (decI w0)
  have hok : decOk w0 = (encE (decI w0) == 0 && encW (decI w0) == w0) := rfl
  unfold decV decE
  rw [hok]
  clear hok
  generalize encE _ = E at *
  generalize encW _ = W at *
  rw [hi] at hE ⊢
  rw [hff] at hO
  have hs : (0 : Int) ≤ 0 ∧ 0 < (4294967296 : Int) := by omega
  simp only at hO hE
  have HO := Lib.hid hO
  have HE := Lib.hid hE
  clear hO hE hi hff
  generalize hq : (E == 0 && W == w0) = q
  have Hq := Lib.hid hq
  clear hq
  cases q
  all_goals
    (first | simp only [if_true] | simp only [Bool.false_eq_true, if_false])
    go_enter Try.func24, Try.ntmps24
    go_wp2_with fail
    refine (HO.out _).mono ?_
    rintro e w1 ⟨rfl, hb1⟩
    obtain ⟨hc, hfz⟩ := bcell hb1
    have hz1 : w.heap.size + 1 < w1.heap.size := by have := hb1.size; simp at this; omega
    have hz : w.heap.size < w1.heap.size := by omega
    have hzz : w.heap.size < w1.heap.size + 1 := by omega
    go_wp2_with fail
    refine (HE.out _ hs.1 hs.2).mono ?_
    rintro e w2 ⟨rfl, hb2⟩
    obtain ⟨hc2, hfz2⟩ := bcell hb2
    have hy := hb2.size
    simp at hy
    have hy1 : w.heap.size + 1 < w2.heap.size := by omega
    have hy0 : w.heap.size < w2.heap.size := by omega
    go_wp2_with fail
    all_goals
      have hq := Hq.out
      first
      | (exfalso; simp_all; done)
      | (refine bodyPost_ret ?_ rfl ⟨rfl, (by repeat' (first | with_reducible exact Below.refl _ _ | with_reducible refine below_alloc ?_ _ | with_reducible refine below_drew ?_ | with_reducible refine below_drewN ?_ _ | with_reducible refine below_set ?_ (by first | exact Nat.le_refl _ | (simp <;> omega)) _ | with_reducible refine below_call ?_ (by assumption)))⟩
         simp [results, Try.results24, go_sem, cell_set, hc2, hc, hzz, hz, hy0])

set_option maxHeartbeats 1000000 in
theorem decRef_1 (w0 : Int) (h0 : 0 ≤ w0) (h1 : w0 < 4294967296) (hff : formOf (w0 / 67108864) = ⟨true, true, true, false, false, 18, 0⟩) (w : World) :
    Calls Try.prog 24 #[.int .u32 w0] w fun e w' => e = .returned (.tuple #[.agg #[.int .i64 (decV w0).op, .int .i64 (decV w0).d, .int .i64 (decV w0).a, .int .i64 (decV w0).b, .int .u32 (decV w0).imm], .int .i64 (decE w0)]) ∧ Below w.heap.size w w' := by
  have hO := of_any (w0 / 67108864)
  have hi : decI w0 = ⟨w0 / 67108864, w0 / 4194304 % 16, w0 / 262144 % 16, 0, w0 % 262144⟩ := by unfold decI; rw [hff]; first | rfl | (simp [pw0]; done) | simp [pw0, pw18, pw22]
  have hE := encRef_any (decI w0)
  have hok : decOk w0 = (encE (decI w0) == 0 && encW (decI w0) == w0) := rfl
  unfold decV decE
  rw [hok]
  clear hok
  generalize encE _ = E at *
  generalize encW _ = W at *
  rw [hi] at hE ⊢
  rw [hff] at hO
  have hs : (0 : Int) ≤ w0 % 262144 ∧ w0 % 262144 < (4294967296 : Int) := by omega
  simp only at hO hE
  have HO := Lib.hid hO
  have HE := Lib.hid hE
  clear hO hE hi hff
  generalize hq : (E == 0 && W == w0) = q
  have Hq := Lib.hid hq
  clear hq
  cases q
  all_goals
    (first | simp only [if_true] | simp only [Bool.false_eq_true, if_false])
    go_enter Try.func24, Try.ntmps24
    go_wp2_with fail
    refine (HO.out _).mono ?_
    rintro e w1 ⟨rfl, hb1⟩
    obtain ⟨hc, hfz⟩ := bcell hb1
    have hz1 : w.heap.size + 1 < w1.heap.size := by have := hb1.size; simp at this; omega
    have hz : w.heap.size < w1.heap.size := by omega
    have hzz : w.heap.size < w1.heap.size + 1 := by omega
    go_wp2_with fail
    refine (HE.out _ hs.1 hs.2).mono ?_
    rintro e w2 ⟨rfl, hb2⟩
    obtain ⟨hc2, hfz2⟩ := bcell hb2
    have hy := hb2.size
    simp at hy
    have hy1 : w.heap.size + 1 < w2.heap.size := by omega
    have hy0 : w.heap.size < w2.heap.size := by omega
    go_wp2_with fail
    all_goals
      have hq := Hq.out
      first
      | (exfalso; simp_all; done)
      | (refine bodyPost_ret ?_ rfl ⟨rfl, (by repeat' (first | with_reducible exact Below.refl _ _ | with_reducible refine below_alloc ?_ _ | with_reducible refine below_drew ?_ | with_reducible refine below_drewN ?_ _ | with_reducible refine below_set ?_ (by first | exact Nat.le_refl _ | (simp <;> omega)) _ | with_reducible refine below_call ?_ (by assumption)))⟩
         simp [results, Try.results24, go_sem, cell_set, hc2, hc, hzz, hz, hy0])

set_option maxHeartbeats 1000000 in
theorem decRef_2 (w0 : Int) (h0 : 0 ≤ w0) (h1 : w0 < 4294967296) (hff : formOf (w0 / 67108864) = ⟨true, true, true, false, true, 18, 0⟩) (w : World) :
    Calls Try.prog 24 #[.int .u32 w0] w fun e w' => e = .returned (.tuple #[.agg #[.int .i64 (decV w0).op, .int .i64 (decV w0).d, .int .i64 (decV w0).a, .int .i64 (decV w0).b, .int .u32 (decV w0).imm], .int .i64 (decE w0)]) ∧ Below w.heap.size w w' := by
  have hO := of_any (w0 / 67108864)
  have hi : decI w0 = ⟨w0 / 67108864, w0 / 4194304 % 16, w0 / 262144 % 16, 0, sgn (w0 % 262144) 18⟩ := by unfold decI; rw [hff]; first | rfl | (simp [pw0]; done) | simp [pw0, pw18, pw22]
  have hE := encRef_any (decI w0)
  have hok : decOk w0 = (encE (decI w0) == 0 && encW (decI w0) == w0) := rfl
  unfold decV decE
  rw [hok]
  clear hok
  generalize encE _ = E at *
  generalize encW _ = W at *
  rw [hi] at hE ⊢
  rw [hff] at hO
  have hs := sgn_bd (w0 % 262144) 18 (by omega)
  simp only at hO hE
  have HO := Lib.hid hO
  have HE := Lib.hid hE
  clear hO hE hi hff
  generalize hq : (E == 0 && W == w0) = q
  have Hq := Lib.hid hq
  clear hq
  cases q
  all_goals
    (first | simp only [if_true] | simp only [Bool.false_eq_true, if_false])
    go_enter Try.func24, Try.ntmps24
    go_wp2_with fail
    refine (HO.out _).mono ?_
    rintro e w1 ⟨rfl, hb1⟩
    obtain ⟨hc, hfz⟩ := bcell hb1
    have hz1 : w.heap.size + 1 < w1.heap.size := by have := hb1.size; simp at this; omega
    have hz : w.heap.size < w1.heap.size := by omega
    have hzz : w.heap.size < w1.heap.size + 1 := by omega
    go_wp2_with (go_at_call 40; (with_reducible refine (sign1_any _ _ _ (by omega) (by omega) (by omega)).mono ?_); rintro e w' ⟨rfl, rfl⟩)
    refine (HE.out _ hs.1 hs.2).mono ?_
    rintro e w2 ⟨rfl, hb2⟩
    obtain ⟨hc2, hfz2⟩ := bcell hb2
    have hy := hb2.size
    simp at hy
    have hy1 : w.heap.size + 1 < w2.heap.size := by omega
    have hy0 : w.heap.size < w2.heap.size := by omega
    go_wp2_with fail
    all_goals
      have hq := Hq.out
      first
      | (exfalso; simp_all; done)
      | (refine bodyPost_ret ?_ rfl ⟨rfl, (by repeat' (first | with_reducible exact Below.refl _ _ | with_reducible refine below_alloc ?_ _ | with_reducible refine below_drew ?_ | with_reducible refine below_drewN ?_ _ | with_reducible refine below_set ?_ (by first | exact Nat.le_refl _ | (simp <;> omega)) _ | with_reducible refine below_call ?_ (by assumption)))⟩
         simp [results, Try.results24, go_sem, cell_set, hc2, hc, hzz, hz, hy0])

set_option maxHeartbeats 1000000 in
theorem decRef_3 (w0 : Int) (h0 : 0 ≤ w0) (h1 : w0 < 4294967296) (hff : formOf (w0 / 67108864) = ⟨true, true, false, false, true, 22, 0⟩) (w : World) :
    Calls Try.prog 24 #[.int .u32 w0] w fun e w' => e = .returned (.tuple #[.agg #[.int .i64 (decV w0).op, .int .i64 (decV w0).d, .int .i64 (decV w0).a, .int .i64 (decV w0).b, .int .u32 (decV w0).imm], .int .i64 (decE w0)]) ∧ Below w.heap.size w w' := by
  have hO := of_any (w0 / 67108864)
  have hi : decI w0 = ⟨w0 / 67108864, w0 / 4194304 % 16, 0, 0, sgn (w0 % 4194304) 22⟩ := by unfold decI; rw [hff]; first | rfl | (simp [pw0]; done) | simp [pw0, pw18, pw22]
  have hE := encRef_any (decI w0)
  have hok : decOk w0 = (encE (decI w0) == 0 && encW (decI w0) == w0) := rfl
  unfold decV decE
  rw [hok]
  clear hok
  generalize encE _ = E at *
  generalize encW _ = W at *
  rw [hi] at hE ⊢
  rw [hff] at hO
  have hs := sgn_bd (w0 % 4194304) 22 (by omega)
  simp only at hO hE
  have HO := Lib.hid hO
  have HE := Lib.hid hE
  clear hO hE hi hff
  generalize hq : (E == 0 && W == w0) = q
  have Hq := Lib.hid hq
  clear hq
  cases q
  all_goals
    (first | simp only [if_true] | simp only [Bool.false_eq_true, if_false])
    go_enter Try.func24, Try.ntmps24
    go_wp2_with fail
    refine (HO.out _).mono ?_
    rintro e w1 ⟨rfl, hb1⟩
    obtain ⟨hc, hfz⟩ := bcell hb1
    have hz1 : w.heap.size + 1 < w1.heap.size := by have := hb1.size; simp at this; omega
    have hz : w.heap.size < w1.heap.size := by omega
    have hzz : w.heap.size < w1.heap.size + 1 := by omega
    go_wp2_with (go_at_call 40; (with_reducible refine (sign1_any _ _ _ (by omega) (by omega) (by omega)).mono ?_); rintro e w' ⟨rfl, rfl⟩)
    refine (HE.out _ hs.1 hs.2).mono ?_
    rintro e w2 ⟨rfl, hb2⟩
    obtain ⟨hc2, hfz2⟩ := bcell hb2
    have hy := hb2.size
    simp at hy
    have hy1 : w.heap.size + 1 < w2.heap.size := by omega
    have hy0 : w.heap.size < w2.heap.size := by omega
    go_wp2_with fail
    all_goals
      have hq := Hq.out
      first
      | (exfalso; simp_all; done)
      | (refine bodyPost_ret ?_ rfl ⟨rfl, (by repeat' (first | with_reducible exact Below.refl _ _ | with_reducible refine below_alloc ?_ _ | with_reducible refine below_drew ?_ | with_reducible refine below_drewN ?_ _ | with_reducible refine below_set ?_ (by first | exact Nat.le_refl _ | (simp <;> omega)) _ | with_reducible refine below_call ?_ (by assumption)))⟩
         simp [results, Try.results24, go_sem, cell_set, hc2, hc, hzz, hz, hy0])

set_option maxHeartbeats 1000000 in
theorem decRef_4 (w0 : Int) (h0 : 0 ≤ w0) (h1 : w0 < 4294967296) (hff : formOf (w0 / 67108864) = ⟨true, true, false, false, false, 22, 0⟩) (w : World) :
    Calls Try.prog 24 #[.int .u32 w0] w fun e w' => e = .returned (.tuple #[.agg #[.int .i64 (decV w0).op, .int .i64 (decV w0).d, .int .i64 (decV w0).a, .int .i64 (decV w0).b, .int .u32 (decV w0).imm], .int .i64 (decE w0)]) ∧ Below w.heap.size w w' := by
  have hO := of_any (w0 / 67108864)
  have hi : decI w0 = ⟨w0 / 67108864, w0 / 4194304 % 16, 0, 0, w0 % 4194304⟩ := by unfold decI; rw [hff]; first | rfl | (simp [pw0]; done) | simp [pw0, pw18, pw22]
  have hE := encRef_any (decI w0)
  have hok : decOk w0 = (encE (decI w0) == 0 && encW (decI w0) == w0) := rfl
  unfold decV decE
  rw [hok]
  clear hok
  generalize encE _ = E at *
  generalize encW _ = W at *
  rw [hi] at hE ⊢
  rw [hff] at hO
  have hs : (0 : Int) ≤ w0 % 4194304 ∧ w0 % 4194304 < (4294967296 : Int) := by omega
  simp only at hO hE
  have HO := Lib.hid hO
  have HE := Lib.hid hE
  clear hO hE hi hff
  generalize hq : (E == 0 && W == w0) = q
  have Hq := Lib.hid hq
  clear hq
  cases q
  all_goals
    (first | simp only [if_true] | simp only [Bool.false_eq_true, if_false])
    go_enter Try.func24, Try.ntmps24
    go_wp2_with fail
    refine (HO.out _).mono ?_
    rintro e w1 ⟨rfl, hb1⟩
    obtain ⟨hc, hfz⟩ := bcell hb1
    have hz1 : w.heap.size + 1 < w1.heap.size := by have := hb1.size; simp at this; omega
    have hz : w.heap.size < w1.heap.size := by omega
    have hzz : w.heap.size < w1.heap.size + 1 := by omega
    go_wp2_with fail
    refine (HE.out _ hs.1 hs.2).mono ?_
    rintro e w2 ⟨rfl, hb2⟩
    obtain ⟨hc2, hfz2⟩ := bcell hb2
    have hy := hb2.size
    simp at hy
    have hy1 : w.heap.size + 1 < w2.heap.size := by omega
    have hy0 : w.heap.size < w2.heap.size := by omega
    go_wp2_with fail
    all_goals
      have hq := Hq.out
      first
      | (exfalso; simp_all; done)
      | (refine bodyPost_ret ?_ rfl ⟨rfl, (by repeat' (first | with_reducible exact Below.refl _ _ | with_reducible refine below_alloc ?_ _ | with_reducible refine below_drew ?_ | with_reducible refine below_drewN ?_ _ | with_reducible refine below_set ?_ (by first | exact Nat.le_refl _ | (simp <;> omega)) _ | with_reducible refine below_call ?_ (by assumption)))⟩
         simp [results, Try.results24, go_sem, cell_set, hc2, hc, hzz, hz, hy0])

set_option maxHeartbeats 1000000 in
theorem decRef_5 (w0 : Int) (h0 : 0 ≤ w0) (h1 : w0 < 4294967296) (hff : formOf (w0 / 67108864) = ⟨true, false, false, false, false, 18, 0⟩) (w : World) :
    Calls Try.prog 24 #[.int .u32 w0] w fun e w' => e = .returned (.tuple #[.agg #[.int .i64 (decV w0).op, .int .i64 (decV w0).d, .int .i64 (decV w0).a, .int .i64 (decV w0).b, .int .u32 (decV w0).imm], .int .i64 (decE w0)]) ∧ Below w.heap.size w w' := by
  have hO := of_any (w0 / 67108864)
  have hi : decI w0 = ⟨w0 / 67108864, 0, 0, 0, w0 % 262144⟩ := by unfold decI; rw [hff]; first | rfl | (simp [pw0]; done) | simp [pw0, pw18, pw22]
  have hE := encRef_any (decI w0)
  have hok : decOk w0 = (encE (decI w0) == 0 && encW (decI w0) == w0) := rfl
  unfold decV decE
  rw [hok]
  clear hok
  generalize encE _ = E at *
  generalize encW _ = W at *
  rw [hi] at hE ⊢
  rw [hff] at hO
  have hs : (0 : Int) ≤ w0 % 262144 ∧ w0 % 262144 < (4294967296 : Int) := by omega
  simp only at hO hE
  have HO := Lib.hid hO
  have HE := Lib.hid hE
  clear hO hE hi hff
  generalize hq : (E == 0 && W == w0) = q
  have Hq := Lib.hid hq
  clear hq
  cases q
  all_goals
    (first | simp only [if_true] | simp only [Bool.false_eq_true, if_false])
    go_enter Try.func24, Try.ntmps24
    go_wp2_with fail
    refine (HO.out _).mono ?_
    rintro e w1 ⟨rfl, hb1⟩
    obtain ⟨hc, hfz⟩ := bcell hb1
    have hz1 : w.heap.size + 1 < w1.heap.size := by have := hb1.size; simp at this; omega
    have hz : w.heap.size < w1.heap.size := by omega
    have hzz : w.heap.size < w1.heap.size + 1 := by omega
    go_wp2_with fail
    refine (HE.out _ hs.1 hs.2).mono ?_
    rintro e w2 ⟨rfl, hb2⟩
    obtain ⟨hc2, hfz2⟩ := bcell hb2
    have hy := hb2.size
    simp at hy
    have hy1 : w.heap.size + 1 < w2.heap.size := by omega
    have hy0 : w.heap.size < w2.heap.size := by omega
    go_wp2_with fail
    all_goals
      have hq := Hq.out
      first
      | (exfalso; simp_all; done)
      | (refine bodyPost_ret ?_ rfl ⟨rfl, (by repeat' (first | with_reducible exact Below.refl _ _ | with_reducible refine below_alloc ?_ _ | with_reducible refine below_drew ?_ | with_reducible refine below_drewN ?_ _ | with_reducible refine below_set ?_ (by first | exact Nat.le_refl _ | (simp <;> omega)) _ | with_reducible refine below_call ?_ (by assumption)))⟩
         simp [results, Try.results24, go_sem, cell_set, hc2, hc, hzz, hz, hy0])

set_option maxHeartbeats 1000000 in
theorem decRef_6 (w0 : Int) (h0 : 0 ≤ w0) (h1 : w0 < 4294967296) (hff : formOf (w0 / 67108864) = ⟨true, false, false, false, false, 0, 0⟩) (w : World) :
    Calls Try.prog 24 #[.int .u32 w0] w fun e w' => e = .returned (.tuple #[.agg #[.int .i64 (decV w0).op, .int .i64 (decV w0).d, .int .i64 (decV w0).a, .int .i64 (decV w0).b, .int .u32 (decV w0).imm], .int .i64 (decE w0)]) ∧ Below w.heap.size w w' := by
  have hO := of_any (w0 / 67108864)
  have hi : decI w0 = ⟨w0 / 67108864, 0, 0, 0, 0⟩ := by unfold decI; rw [hff]; first | rfl | (simp [pw0]; done) | simp [pw0, pw18, pw22]
  have hE := encRef_any (decI w0)
  have hok : decOk w0 = (encE (decI w0) == 0 && encW (decI w0) == w0) := rfl
  unfold decV decE
  rw [hok]
  clear hok
  generalize encE _ = E at *
  generalize encW _ = W at *
  rw [hi] at hE ⊢
  rw [hff] at hO
  have hs : (0 : Int) ≤ 0 ∧ 0 < (4294967296 : Int) := by omega
  simp only at hO hE
  have HO := Lib.hid hO
  have HE := Lib.hid hE
  clear hO hE hi hff
  generalize hq : (E == 0 && W == w0) = q
  have Hq := Lib.hid hq
  clear hq
  cases q
  all_goals
    (first | simp only [if_true] | simp only [Bool.false_eq_true, if_false])
    go_enter Try.func24, Try.ntmps24
    go_wp2_with fail
    refine (HO.out _).mono ?_
    rintro e w1 ⟨rfl, hb1⟩
    obtain ⟨hc, hfz⟩ := bcell hb1
    have hz1 : w.heap.size + 1 < w1.heap.size := by have := hb1.size; simp at this; omega
    have hz : w.heap.size < w1.heap.size := by omega
    have hzz : w.heap.size < w1.heap.size + 1 := by omega
    go_wp2_with fail
    refine (HE.out _ hs.1 hs.2).mono ?_
    rintro e w2 ⟨rfl, hb2⟩
    obtain ⟨hc2, hfz2⟩ := bcell hb2
    have hy := hb2.size
    simp at hy
    have hy1 : w.heap.size + 1 < w2.heap.size := by omega
    have hy0 : w.heap.size < w2.heap.size := by omega
    go_wp2_with fail
    all_goals
      have hq := Hq.out
      first
      | (exfalso; simp_all; done)
      | (refine bodyPost_ret ?_ rfl ⟨rfl, (by repeat' (first | with_reducible exact Below.refl _ _ | with_reducible refine below_alloc ?_ _ | with_reducible refine below_drew ?_ | with_reducible refine below_drewN ?_ _ | with_reducible refine below_set ?_ (by first | exact Nat.le_refl _ | (simp <;> omega)) _ | with_reducible refine below_call ?_ (by assumption)))⟩
         simp [results, Try.results24, go_sem, cell_set, hc2, hc, hzz, hz, hy0])

set_option maxHeartbeats 1000000 in
theorem decRef_7 (w0 : Int) (h0 : 0 ≤ w0) (h1 : w0 < 4294967296) (hff : formOf (w0 / 67108864) = ⟨true, false, true, false, false, 0, 0⟩) (w : World) :
    Calls Try.prog 24 #[.int .u32 w0] w fun e w' => e = .returned (.tuple #[.agg #[.int .i64 (decV w0).op, .int .i64 (decV w0).d, .int .i64 (decV w0).a, .int .i64 (decV w0).b, .int .u32 (decV w0).imm], .int .i64 (decE w0)]) ∧ Below w.heap.size w w' := by
  have hO := of_any (w0 / 67108864)
  have hi : decI w0 = ⟨w0 / 67108864, 0, w0 / 262144 % 16, 0, 0⟩ := by unfold decI; rw [hff]; first | rfl | (simp [pw0]; done) | simp [pw0, pw18, pw22]
  have hE := encRef_any (decI w0)
  have hok : decOk w0 = (encE (decI w0) == 0 && encW (decI w0) == w0) := rfl
  unfold decV decE
  rw [hok]
  clear hok
  generalize encE _ = E at *
  generalize encW _ = W at *
  rw [hi] at hE ⊢
  rw [hff] at hO
  have hs : (0 : Int) ≤ 0 ∧ 0 < (4294967296 : Int) := by omega
  simp only at hO hE
  have HO := Lib.hid hO
  have HE := Lib.hid hE
  clear hO hE hi hff
  generalize hq : (E == 0 && W == w0) = q
  have Hq := Lib.hid hq
  clear hq
  cases q
  all_goals
    (first | simp only [if_true] | simp only [Bool.false_eq_true, if_false])
    go_enter Try.func24, Try.ntmps24
    go_wp2_with fail
    refine (HO.out _).mono ?_
    rintro e w1 ⟨rfl, hb1⟩
    obtain ⟨hc, hfz⟩ := bcell hb1
    have hz1 : w.heap.size + 1 < w1.heap.size := by have := hb1.size; simp at this; omega
    have hz : w.heap.size < w1.heap.size := by omega
    have hzz : w.heap.size < w1.heap.size + 1 := by omega
    go_wp2_with fail
    refine (HE.out _ hs.1 hs.2).mono ?_
    rintro e w2 ⟨rfl, hb2⟩
    obtain ⟨hc2, hfz2⟩ := bcell hb2
    have hy := hb2.size
    simp at hy
    have hy1 : w.heap.size + 1 < w2.heap.size := by omega
    have hy0 : w.heap.size < w2.heap.size := by omega
    go_wp2_with fail
    all_goals
      have hq := Hq.out
      first
      | (exfalso; simp_all; done)
      | (refine bodyPost_ret ?_ rfl ⟨rfl, (by repeat' (first | with_reducible exact Below.refl _ _ | with_reducible refine below_alloc ?_ _ | with_reducible refine below_drew ?_ | with_reducible refine below_drewN ?_ _ | with_reducible refine below_set ?_ (by first | exact Nat.le_refl _ | (simp <;> omega)) _ | with_reducible refine below_call ?_ (by assumption)))⟩
         simp [results, Try.results24, go_sem, cell_set, hc2, hc, hzz, hz, hy0])

set_option maxHeartbeats 1000000 in
theorem decRef_8 (w0 : Int) (h0 : 0 ≤ w0) (h1 : w0 < 4294967296) (hff : formOf (w0 / 67108864) = ⟨true, true, false, false, false, 18, 3⟩) (w : World) :
    Calls Try.prog 24 #[.int .u32 w0] w fun e w' => e = .returned (.tuple #[.agg #[.int .i64 (decV w0).op, .int .i64 (decV w0).d, .int .i64 (decV w0).a, .int .i64 (decV w0).b, .int .u32 (decV w0).imm], .int .i64 (decE w0)]) ∧ Below w.heap.size w w' := by
  have hO := of_any (w0 / 67108864)
  have hi : decI w0 = ⟨w0 / 67108864, w0 / 4194304 % 16, 0, 0, w0 % 262144⟩ := by unfold decI; rw [hff]; first | rfl | (simp [pw0]; done) | simp [pw0, pw18, pw22]
  have hE := encRef_any (decI w0)
  have hok : decOk w0 = (encE (decI w0) == 0 && encW (decI w0) == w0) := rfl
  unfold decV decE
  rw [hok]
  clear hok
  generalize encE _ = E at *
  generalize encW _ = W at *
  rw [hi] at hE ⊢
  rw [hff] at hO
  have hs : (0 : Int) ≤ w0 % 262144 ∧ w0 % 262144 < (4294967296 : Int) := by omega
  simp only at hO hE
  have HO := Lib.hid hO
  have HE := Lib.hid hE
  clear hO hE hi hff
  generalize hq : (E == 0 && W == w0) = q
  have Hq := Lib.hid hq
  clear hq
  cases q
  all_goals
    (first | simp only [if_true] | simp only [Bool.false_eq_true, if_false])
    go_enter Try.func24, Try.ntmps24
    go_wp2_with fail
    refine (HO.out _).mono ?_
    rintro e w1 ⟨rfl, hb1⟩
    obtain ⟨hc, hfz⟩ := bcell hb1
    have hz1 : w.heap.size + 1 < w1.heap.size := by have := hb1.size; simp at this; omega
    have hz : w.heap.size < w1.heap.size := by omega
    have hzz : w.heap.size < w1.heap.size + 1 := by omega
    go_wp2_with fail
    refine (HE.out _ hs.1 hs.2).mono ?_
    rintro e w2 ⟨rfl, hb2⟩
    obtain ⟨hc2, hfz2⟩ := bcell hb2
    have hy := hb2.size
    simp at hy
    have hy1 : w.heap.size + 1 < w2.heap.size := by omega
    have hy0 : w.heap.size < w2.heap.size := by omega
    go_wp2_with fail
    all_goals
      have hq := Hq.out
      first
      | (exfalso; simp_all; done)
      | (refine bodyPost_ret ?_ rfl ⟨rfl, (by repeat' (first | with_reducible exact Below.refl _ _ | with_reducible refine below_alloc ?_ _ | with_reducible refine below_drew ?_ | with_reducible refine below_drewN ?_ _ | with_reducible refine below_set ?_ (by first | exact Nat.le_refl _ | (simp <;> omega)) _ | with_reducible refine below_call ?_ (by assumption)))⟩
         simp [results, Try.results24, go_sem, cell_set, hc2, hc, hzz, hz, hy0])

set_option maxHeartbeats 1000000 in
theorem decRef_9 (w0 : Int) (h0 : 0 ≤ w0) (h1 : w0 < 4294967296) (hff : formOf (w0 / 67108864) = ⟨true, false, true, false, false, 18, 4⟩) (w : World) :
    Calls Try.prog 24 #[.int .u32 w0] w fun e w' => e = .returned (.tuple #[.agg #[.int .i64 (decV w0).op, .int .i64 (decV w0).d, .int .i64 (decV w0).a, .int .i64 (decV w0).b, .int .u32 (decV w0).imm], .int .i64 (decE w0)]) ∧ Below w.heap.size w w' := by
  have hO := of_any (w0 / 67108864)
  have hi : decI w0 = ⟨w0 / 67108864, 0, w0 / 262144 % 16, 0, w0 % 262144⟩ := by unfold decI; rw [hff]; first | rfl | (simp [pw0]; done) | simp [pw0, pw18, pw22]
  have hE := encRef_any (decI w0)
  have hok : decOk w0 = (encE (decI w0) == 0 && encW (decI w0) == w0) := rfl
  unfold decV decE
  rw [hok]
  clear hok
  generalize encE _ = E at *
  generalize encW _ = W at *
  rw [hi] at hE ⊢
  rw [hff] at hO
  have hs : (0 : Int) ≤ w0 % 262144 ∧ w0 % 262144 < (4294967296 : Int) := by omega
  simp only at hO hE
  have HO := Lib.hid hO
  have HE := Lib.hid hE
  clear hO hE hi hff
  generalize hq : (E == 0 && W == w0) = q
  have Hq := Lib.hid hq
  clear hq
  cases q
  all_goals
    (first | simp only [if_true] | simp only [Bool.false_eq_true, if_false])
    go_enter Try.func24, Try.ntmps24
    go_wp2_with fail
    refine (HO.out _).mono ?_
    rintro e w1 ⟨rfl, hb1⟩
    obtain ⟨hc, hfz⟩ := bcell hb1
    have hz1 : w.heap.size + 1 < w1.heap.size := by have := hb1.size; simp at this; omega
    have hz : w.heap.size < w1.heap.size := by omega
    have hzz : w.heap.size < w1.heap.size + 1 := by omega
    go_wp2_with fail
    refine (HE.out _ hs.1 hs.2).mono ?_
    rintro e w2 ⟨rfl, hb2⟩
    obtain ⟨hc2, hfz2⟩ := bcell hb2
    have hy := hb2.size
    simp at hy
    have hy1 : w.heap.size + 1 < w2.heap.size := by omega
    have hy0 : w.heap.size < w2.heap.size := by omega
    go_wp2_with fail
    all_goals
      have hq := Hq.out
      first
      | (exfalso; simp_all; done)
      | (refine bodyPost_ret ?_ rfl ⟨rfl, (by repeat' (first | with_reducible exact Below.refl _ _ | with_reducible refine below_alloc ?_ _ | with_reducible refine below_drew ?_ | with_reducible refine below_drewN ?_ _ | with_reducible refine below_set ?_ (by first | exact Nat.le_refl _ | (simp <;> omega)) _ | with_reducible refine below_call ?_ (by assumption)))⟩
         simp [results, Try.results24, go_sem, cell_set, hc2, hc, hzz, hz, hy0])

set_option maxHeartbeats 1000000 in
theorem decRef_10 (w0 : Int) (h0 : 0 ≤ w0) (h1 : w0 < 4294967296) (hff : formOf (w0 / 67108864) = ⟨false, false, false, false, false, 0, 0⟩) (w : World) :
    Calls Try.prog 24 #[.int .u32 w0] w fun e w' => e = .returned (.tuple #[.agg #[.int .i64 (decV w0).op, .int .i64 (decV w0).d, .int .i64 (decV w0).a, .int .i64 (decV w0).b, .int .u32 (decV w0).imm], .int .i64 (decE w0)]) ∧ Below w.heap.size w w' := by
  have hO := of_any (w0 / 67108864)
  have hi : decI w0 = ⟨w0 / 67108864, 0, 0, 0, 0⟩ := by unfold decI; rw [hff]; first | rfl | (simp [pw0]; done) | simp [pw0, pw18, pw22]
  have hE := encRef_any (decI w0)
  have hok : decOk w0 = (encE (decI w0) == 0 && encW (decI w0) == w0) := rfl
  unfold decV decE
  rw [hok]
  clear hok
  generalize encE _ = E at *
  generalize encW _ = W at *
  rw [hi] at hE ⊢
  rw [hff] at hO
  have hs : (0 : Int) ≤ 0 ∧ 0 < (4294967296 : Int) := by omega
  simp only at hO hE
  have HO := Lib.hid hO
  have HE := Lib.hid hE
  clear hO hE hi hff
  generalize hq : (E == 0 && W == w0) = q
  have Hq := Lib.hid hq
  clear hq
  cases q
  all_goals
    (first | simp only [if_true] | simp only [Bool.false_eq_true, if_false])
    go_enter Try.func24, Try.ntmps24
    go_wp2_with fail
    refine (HO.out _).mono ?_
    rintro e w1 ⟨rfl, hb1⟩
    obtain ⟨hc, hfz⟩ := bcell hb1
    have hz1 : w.heap.size + 1 < w1.heap.size := by have := hb1.size; simp at this; omega
    have hz : w.heap.size < w1.heap.size := by omega
    have hzz : w.heap.size < w1.heap.size + 1 := by omega
    go_wp2_with fail
    refine (HE.out _ hs.1 hs.2).mono ?_
    rintro e w2 ⟨rfl, hb2⟩
    obtain ⟨hc2, hfz2⟩ := bcell hb2
    have hy := hb2.size
    simp at hy
    have hy1 : w.heap.size + 1 < w2.heap.size := by omega
    have hy0 : w.heap.size < w2.heap.size := by omega
    go_wp2_with fail
    all_goals
      have hq := Hq.out
      first
      | (exfalso; simp_all; done)
      | (refine bodyPost_ret ?_ rfl ⟨rfl, (by repeat' (first | with_reducible exact Below.refl _ _ | with_reducible refine below_alloc ?_ _ | with_reducible refine below_drew ?_ | with_reducible refine below_drewN ?_ _ | with_reducible refine below_set ?_ (by first | exact Nat.le_refl _ | (simp <;> omega)) _ | with_reducible refine below_call ?_ (by assumption)))⟩
         simp [results, Try.results24, go_sem, cell_set, hc2, hc, hzz, hz, hy0])

theorem decRef_any (w0 : Int) (h0 : 0 ≤ w0) (h1 : w0 < 4294967296) (w : World) :
    Calls Try.prog 24 #[.int .u32 w0] w fun e w' => e = .returned (.tuple #[.agg #[.int .i64 (decV w0).op, .int .i64 (decV w0).d, .int .i64 (decV w0).a, .int .i64 (decV w0).b, .int .u32 (decV w0).imm], .int .i64 (decE w0)]) ∧ Below w.heap.size w w' := by
  rcases formOf_cases (w0 / 67108864) with h | h | h | h | h | h | h | h | h | h | h
  · exact decRef_0 w0 h0 h1 h w
  · exact decRef_1 w0 h0 h1 h w
  · exact decRef_2 w0 h0 h1 h w
  · exact decRef_3 w0 h0 h1 h w
  · exact decRef_4 w0 h0 h1 h w
  · exact decRef_5 w0 h0 h1 h w
  · exact decRef_6 w0 h0 h1 h w
  · exact decRef_7 w0 h0 h1 h w
  · exact decRef_8 w0 h0 h1 h w
  · exact decRef_9 w0 h0 h1 h w
  · exact decRef_10 w0 h0 h1 h w

end Go.Proofs.Ytdoanneelnelbaa
