/-
  What Decode computes, for three of the forms. Condition: the word is a word.
-/
import Derived.Test.YtdoanneelnelbaaU4
import Derived.Test.YtdoanneelnelbaaX0
import Derived.Deep.RegionHeld3
namespace Go.Proofs.Ytdoanneelnelbaa
set_option linter.unusedSimpArgs false
set_option linter.unusedVariables false
open Go.RowKit

attribute [local go_sem] cell_set

set_option maxHeartbeats 400000 in
theorem field_yes (at_ : Int) (h : at_ = 22 ∨ at_ = 18 ∨ at_ = 14) (w0 : Int) (h0 : 0 ≤ w0) (h1 : w0 < 4294967296) (a : Addr) (w : World) (hc : w.cell? a = some (.int .u32 w0)) :
    Calls Try.prog 41 #[.bool true, .int .i64 at_, .pointer (some a)] w fun e w' => e = .returned (.int .i64 (w0 / (if at_ = 22 then 4194304 else if at_ = 18 then 262144 else 16384) % 16)) ∧ w = w' := by
  rcases h with rfl | rfl | rfl
  all_goals
    go_enter Try.func41, Try.ntmps41
    go_wp2
    go_ret
    exact ⟨rfl, rfl⟩

set_option maxHeartbeats 400000 in
theorem field_no (at_ : Int) (a : Addr) (w : World) :
    Calls Try.prog 41 #[.bool false, .int .i64 at_, .pointer (some a)] w fun e w' => e = .returned (.int .i64 0) ∧ w = w' := by
  go_enter Try.func41, Try.ntmps41
  go_wp2
  go_ret
  exact ⟨rfl, rfl⟩

set_option maxHeartbeats 1000000 in
theorem dec_0 (w0 : Int) (h0 : 0 ≤ w0) (h1 : w0 < 4294967296) (hff : formOf (w0 / 67108864) = ⟨true, true, true, true, false, 0, 0⟩) (w : World) :
    Calls Try.prog 23 #[.int .u32 w0] w fun e w' => e = .returned (.tuple #[.agg #[.int .i64 (decV w0).op, .int .i64 (decV w0).d, .int .i64 (decV w0).a, .int .i64 (decV w0).b, .int .u32 (decV w0).imm], .int .i64 (decE w0)]) ∧ Below w.heap.size w w' := by
  have hO := ofS_any (w0 / 67108864)
  have hi : decI w0 = ⟨w0 / 67108864, w0 / 4194304 % 16, w0 / 262144 % 16, w0 / 16384 % 16, 0⟩ := by unfold decI; rw [hff]; first | rfl | (simp [pw0]; done) | simp [pw0, pw18, pw22]
  have hE := enc_any (decI w0)
  have hok : decOk w0 = (encE (decI w0) == 0 && encW (decI w0) == w0) := rfl
  unfold decV decE
  rw [hok]
  clear hok
  generalize encE _ = E at *
  generalize encW _ = W at *
  rw [hi] at hE ⊢
  rw [hff] at hO
  have hs : (0 : Int) ≤ 0 ∧ 0 < (4294967296 : Int) := by omega
  rw [show kindOf ⟨true, true, true, true, false, 0, 0⟩ = 0 from rfl] at hO
  simp only at hO hE
  have HO := Lib.hid hO
  have HE := Lib.hid hE
  clear hO hE hi hff
  generalize hq : (E == 0 && W == w0) = q
  have Hq := Lib.hid hq
  clear hq
  cases q
  all_goals
    (first | simp only [if_true] | simp only [Bool.false_eq_true, if_false])
    go_enter Try.func23, Try.ntmps23
    go_wp2_with fail
    refine (HO.out _).mono ?_
    rintro e w1 ⟨rfl, hb1⟩
    obtain ⟨hc, hfz⟩ := bcell hb1
    have hz2 : w.heap.size + 2 < w1.heap.size := by have := hb1.size; simp at this; omega
    have hz1 : w.heap.size + 1 < w1.heap.size := by omega
    have hz : w.heap.size < w1.heap.size := by omega
    have hzz : w.heap.size < w1.heap.size + 1 := by omega
    have hn1 : ¬ w.heap.size + 2 = w1.heap.size := by omega
    have hn2 : ¬ w.heap.size + 2 = w.heap.size := by omega
    have hm := mask0
    have ha := and0 w0 h0 h1
    have hbx : w1.cell? ⟨w.heap.size, 0, none⟩ = some (.int .u32 w0) := by rw [hc _ _ (by simp <;> omega)]; simp [go_sem]
    go_upto_region 4 with (fail)
    go_region_held3 (fun w' => w'.cell? ⟨w.heap.size, 0, none⟩ = some (.int .u32 w0) ∧ w'.cell? ⟨w1.heap.size, 1, none⟩ = some (.bool true) ∧ w'.cell? ⟨w1.heap.size, 2, none⟩ = some (.bool true) ∧ w'.cell? ⟨w1.heap.size, 3, none⟩ = some (.bool true)) (first | (go_keep; done) | (go_split_ands; simp [go_sem, cell_set, *]))
      (first
        | (go_at_call 41; (with_reducible refine (field_no _ _ _).mono ?_); rintro e w' ⟨rfl, rfl⟩)
        | (go_at_call 41; (with_reducible refine (field_yes 22 (by omega) w0 h0 h1 _ _ (by go_split_ands; assumption)).mono ?_); rintro e w' ⟨rfl, rfl⟩)
        | (go_at_call 41; (with_reducible refine (field_yes 18 (by omega) w0 h0 h1 _ _ (by go_split_ands; assumption)).mono ?_); rintro e w' ⟨rfl, rfl⟩)
        | (go_at_call 41; (with_reducible refine (field_yes 14 (by omega) w0 h0 h1 _ _ (by go_split_ands; assumption)).mono ?_); rintro e w' ⟨rfl, rfl⟩))
    go_wp2_with fail
    go_region_held3 (fun w' => w'.cell? ⟨w.heap.size, 0, none⟩ = some (.int .u32 w0) ∧ w'.cell? ⟨w1.heap.size, 5, none⟩ = some (.int .i64 0)) (first | (go_keep; done) | (go_split_ands; simp [go_sem, cell_set, *])) (fail)
    go_wp2_with fail
    refine (HE.out _ hs.1 hs.2).mono ?_
    rintro e w2 ⟨rfl, hb2⟩
    obtain ⟨hc2, hfz2⟩ := bcell hb2
    have hy := hb2.size
    simp at hy
    have hy2 : w.heap.size + 2 < w2.heap.size := by omega
    have hy1 : w.heap.size + 1 < w2.heap.size := by omega
    have hy0 : w.heap.size < w2.heap.size := by omega
    have hzy : w.heap.size + 1 < w1.heap.size + 1 := by omega
    go_wp2_with fail
    all_goals
      have hq := Hq.out
      first
      | (exfalso; simp_all; done)
      | (refine bodyPost_ret ?_ rfl ⟨rfl, (by repeat' (first | with_reducible exact Below.refl _ _ | with_reducible refine below_alloc ?_ _ | with_reducible refine below_drew ?_ | with_reducible refine below_drewN ?_ _ | with_reducible refine below_set ?_ (by first | exact Nat.le_refl _ | (simp <;> omega)) _ | with_reducible refine below_call ?_ (by assumption)))⟩
         simp [results, Try.results23, go_sem, cell_set, hc2, hc, hzz, hzy, hz1, hz, hy0])

set_option maxHeartbeats 1000000 in
theorem dec_1 (w0 : Int) (h0 : 0 ≤ w0) (h1 : w0 < 4294967296) (hff : formOf (w0 / 67108864) = ⟨true, true, true, false, false, 18, 0⟩) (w : World) :
    Calls Try.prog 23 #[.int .u32 w0] w fun e w' => e = .returned (.tuple #[.agg #[.int .i64 (decV w0).op, .int .i64 (decV w0).d, .int .i64 (decV w0).a, .int .i64 (decV w0).b, .int .u32 (decV w0).imm], .int .i64 (decE w0)]) ∧ Below w.heap.size w w' := by
  have hO := ofS_any (w0 / 67108864)
  have hi : decI w0 = ⟨w0 / 67108864, w0 / 4194304 % 16, w0 / 262144 % 16, 0, w0 % 262144⟩ := by unfold decI; rw [hff]; first | rfl | (simp [pw0]; done) | simp [pw0, pw18, pw22]
  have hE := enc_any (decI w0)
  have hok : decOk w0 = (encE (decI w0) == 0 && encW (decI w0) == w0) := rfl
  unfold decV decE
  rw [hok]
  clear hok
  generalize encE _ = E at *
  generalize encW _ = W at *
  rw [hi] at hE ⊢
  rw [hff] at hO
  have hs : (0 : Int) ≤ w0 % 262144 ∧ w0 % 262144 < (4294967296 : Int) := by omega
  rw [show kindOf ⟨true, true, true, false, false, 18, 0⟩ = 2 from rfl] at hO
  simp only at hO hE
  have HO := Lib.hid hO
  have HE := Lib.hid hE
  clear hO hE hi hff
  generalize hq : (E == 0 && W == w0) = q
  have Hq := Lib.hid hq
  clear hq
  cases q
  all_goals
    (first | simp only [if_true] | simp only [Bool.false_eq_true, if_false])
    go_enter Try.func23, Try.ntmps23
    go_wp2_with fail
    refine (HO.out _).mono ?_
    rintro e w1 ⟨rfl, hb1⟩
    obtain ⟨hc, hfz⟩ := bcell hb1
    have hz2 : w.heap.size + 2 < w1.heap.size := by have := hb1.size; simp at this; omega
    have hz1 : w.heap.size + 1 < w1.heap.size := by omega
    have hz : w.heap.size < w1.heap.size := by omega
    have hzz : w.heap.size < w1.heap.size + 1 := by omega
    have hn1 : ¬ w.heap.size + 2 = w1.heap.size := by omega
    have hn2 : ¬ w.heap.size + 2 = w.heap.size := by omega
    have hm := mask18
    have ha := and18 w0 h0 h1
    have hbx : w1.cell? ⟨w.heap.size, 0, none⟩ = some (.int .u32 w0) := by rw [hc _ _ (by simp <;> omega)]; simp [go_sem]
    go_upto_region 4 with (fail)
    go_region_held3 (fun w' => w'.cell? ⟨w.heap.size, 0, none⟩ = some (.int .u32 w0) ∧ w'.cell? ⟨w1.heap.size, 1, none⟩ = some (.bool true) ∧ w'.cell? ⟨w1.heap.size, 2, none⟩ = some (.bool true) ∧ w'.cell? ⟨w1.heap.size, 3, none⟩ = some (.bool false)) (first | (go_keep; done) | (go_split_ands; simp [go_sem, cell_set, *]))
      (first
        | (go_at_call 41; (with_reducible refine (field_no _ _ _).mono ?_); rintro e w' ⟨rfl, rfl⟩)
        | (go_at_call 41; (with_reducible refine (field_yes 22 (by omega) w0 h0 h1 _ _ (by go_split_ands; assumption)).mono ?_); rintro e w' ⟨rfl, rfl⟩)
        | (go_at_call 41; (with_reducible refine (field_yes 18 (by omega) w0 h0 h1 _ _ (by go_split_ands; assumption)).mono ?_); rintro e w' ⟨rfl, rfl⟩)
        | (go_at_call 41; (with_reducible refine (field_yes 14 (by omega) w0 h0 h1 _ _ (by go_split_ands; assumption)).mono ?_); rintro e w' ⟨rfl, rfl⟩))
    go_wp2_with fail
    go_region_held3 (fun w' => w'.cell? ⟨w.heap.size, 0, none⟩ = some (.int .u32 w0) ∧ w'.cell? ⟨w1.heap.size, 5, none⟩ = some (.int .i64 18)) (first | (go_keep; done) | (go_split_ands; simp [go_sem, cell_set, *])) (fail)
    go_wp2_with fail
    refine (HE.out _ hs.1 hs.2).mono ?_
    rintro e w2 ⟨rfl, hb2⟩
    obtain ⟨hc2, hfz2⟩ := bcell hb2
    have hy := hb2.size
    simp at hy
    have hy2 : w.heap.size + 2 < w2.heap.size := by omega
    have hy1 : w.heap.size + 1 < w2.heap.size := by omega
    have hy0 : w.heap.size < w2.heap.size := by omega
    have hzy : w.heap.size + 1 < w1.heap.size + 1 := by omega
    go_wp2_with fail
    all_goals
      have hq := Hq.out
      first
      | (exfalso; simp_all; done)
      | (refine bodyPost_ret ?_ rfl ⟨rfl, (by repeat' (first | with_reducible exact Below.refl _ _ | with_reducible refine below_alloc ?_ _ | with_reducible refine below_drew ?_ | with_reducible refine below_drewN ?_ _ | with_reducible refine below_set ?_ (by first | exact Nat.le_refl _ | (simp <;> omega)) _ | with_reducible refine below_call ?_ (by assumption)))⟩
         simp [results, Try.results23, go_sem, cell_set, hc2, hc, hzz, hzy, hz1, hz, hy0])

set_option maxHeartbeats 1000000 in
theorem dec_2 (w0 : Int) (h0 : 0 ≤ w0) (h1 : w0 < 4294967296) (hff : formOf (w0 / 67108864) = ⟨true, true, true, false, true, 18, 0⟩) (w : World) :
    Calls Try.prog 23 #[.int .u32 w0] w fun e w' => e = .returned (.tuple #[.agg #[.int .i64 (decV w0).op, .int .i64 (decV w0).d, .int .i64 (decV w0).a, .int .i64 (decV w0).b, .int .u32 (decV w0).imm], .int .i64 (decE w0)]) ∧ Below w.heap.size w w' := by
  have hO := ofS_any (w0 / 67108864)
  have hi : decI w0 = ⟨w0 / 67108864, w0 / 4194304 % 16, w0 / 262144 % 16, 0, sgn (w0 % 262144) 18⟩ := by unfold decI; rw [hff]; first | rfl | (simp [pw0]; done) | simp [pw0, pw18, pw22]
  have hE := enc_any (decI w0)
  have hok : decOk w0 = (encE (decI w0) == 0 && encW (decI w0) == w0) := rfl
  unfold decV decE
  rw [hok]
  clear hok
  generalize encE _ = E at *
  generalize encW _ = W at *
  rw [hi] at hE ⊢
  rw [hff] at hO
  have hs := sgn_bd (w0 % 262144) 18 (by omega)
  rw [show kindOf ⟨true, true, true, false, true, 18, 0⟩ = 1 from rfl] at hO
  simp only at hO hE
  have HO := Lib.hid hO
  have HE := Lib.hid hE
  clear hO hE hi hff
  generalize hq : (E == 0 && W == w0) = q
  have Hq := Lib.hid hq
  clear hq
  cases q
  all_goals
    (first | simp only [if_true] | simp only [Bool.false_eq_true, if_false])
    go_enter Try.func23, Try.ntmps23
    go_wp2_with fail
    refine (HO.out _).mono ?_
    rintro e w1 ⟨rfl, hb1⟩
    obtain ⟨hc, hfz⟩ := bcell hb1
    have hz2 : w.heap.size + 2 < w1.heap.size := by have := hb1.size; simp at this; omega
    have hz1 : w.heap.size + 1 < w1.heap.size := by omega
    have hz : w.heap.size < w1.heap.size := by omega
    have hzz : w.heap.size < w1.heap.size + 1 := by omega
    have hn1 : ¬ w.heap.size + 2 = w1.heap.size := by omega
    have hn2 : ¬ w.heap.size + 2 = w.heap.size := by omega
    have hm := mask18
    have ha := and18 w0 h0 h1
    have hbx : w1.cell? ⟨w.heap.size, 0, none⟩ = some (.int .u32 w0) := by rw [hc _ _ (by simp <;> omega)]; simp [go_sem]
    go_upto_region 4 with (fail)
    go_region_held3 (fun w' => w'.cell? ⟨w.heap.size, 0, none⟩ = some (.int .u32 w0) ∧ w'.cell? ⟨w1.heap.size, 1, none⟩ = some (.bool true) ∧ w'.cell? ⟨w1.heap.size, 2, none⟩ = some (.bool true) ∧ w'.cell? ⟨w1.heap.size, 3, none⟩ = some (.bool false)) (first | (go_keep; done) | (go_split_ands; simp [go_sem, cell_set, *]))
      (first
        | (go_at_call 41; (with_reducible refine (field_no _ _ _).mono ?_); rintro e w' ⟨rfl, rfl⟩)
        | (go_at_call 41; (with_reducible refine (field_yes 22 (by omega) w0 h0 h1 _ _ (by go_split_ands; assumption)).mono ?_); rintro e w' ⟨rfl, rfl⟩)
        | (go_at_call 41; (with_reducible refine (field_yes 18 (by omega) w0 h0 h1 _ _ (by go_split_ands; assumption)).mono ?_); rintro e w' ⟨rfl, rfl⟩)
        | (go_at_call 41; (with_reducible refine (field_yes 14 (by omega) w0 h0 h1 _ _ (by go_split_ands; assumption)).mono ?_); rintro e w' ⟨rfl, rfl⟩))
    go_wp2_with fail
    go_region_held3 (fun w' => w'.cell? ⟨w.heap.size, 0, none⟩ = some (.int .u32 w0) ∧ w'.cell? ⟨w1.heap.size, 5, none⟩ = some (.int .i64 18)) (first | (go_keep; done) | (go_split_ands; simp [go_sem, cell_set, *])) (fail)
    go_wp2_with (go_at_call 42; (with_reducible refine (signw_any _ _ _ (by omega) (by omega) (by omega)).mono ?_); rintro e w' ⟨rfl, rfl⟩)
    refine (HE.out _ hs.1 hs.2).mono ?_
    rintro e w2 ⟨rfl, hb2⟩
    obtain ⟨hc2, hfz2⟩ := bcell hb2
    have hy := hb2.size
    simp at hy
    have hy2 : w.heap.size + 2 < w2.heap.size := by omega
    have hy1 : w.heap.size + 1 < w2.heap.size := by omega
    have hy0 : w.heap.size < w2.heap.size := by omega
    have hzy : w.heap.size + 1 < w1.heap.size + 1 := by omega
    go_wp2_with fail
    all_goals
      have hq := Hq.out
      first
      | (exfalso; simp_all; done)
      | (refine bodyPost_ret ?_ rfl ⟨rfl, (by repeat' (first | with_reducible exact Below.refl _ _ | with_reducible refine below_alloc ?_ _ | with_reducible refine below_drew ?_ | with_reducible refine below_drewN ?_ _ | with_reducible refine below_set ?_ (by first | exact Nat.le_refl _ | (simp <;> omega)) _ | with_reducible refine below_call ?_ (by assumption)))⟩
         simp [results, Try.results23, go_sem, cell_set, hc2, hc, hzz, hzy, hz1, hz, hy0])


end Go.Proofs.Ytdoanneelnelbaa
