/-
  The walk of the law QcodeLimits: it answers true. No condition.
-/
import Derived.Test.YtdoanneelnelbaaV2
import Derived.Test.YtdoanneelnelbaaM
namespace Go.Proofs.Ytdoanneelnelbaa
set_option linter.unusedSimpArgs false
set_option linter.unusedVariables false
open Go.RowKit

attribute [local go_sem] cell_set

theorem idx50_0 (a b c d : Int) (w : World) : (Instr.index 50 (.agg #[.int .u32 a, .int .u32 b, .int .u32 c, .int .u32 d]) (.int .i64 0)).run Try.prog w = .ok (.int .u32 a) w := by kernel_rfl
theorem idx50_1 (a b c d : Int) (w : World) : (Instr.index 50 (.agg #[.int .u32 a, .int .u32 b, .int .u32 c, .int .u32 d]) (.int .i64 1)).run Try.prog w = .ok (.int .u32 b) w := by kernel_rfl
theorem idx50_2 (a b c d : Int) (w : World) : (Instr.index 50 (.agg #[.int .u32 a, .int .u32 b, .int .u32 c, .int .u32 d]) (.int .i64 2)).run Try.prog w = .ok (.int .u32 c) w := by kernel_rfl
theorem idx50_3 (a b c d : Int) (w : World) : (Instr.index 50 (.agg #[.int .u32 a, .int .u32 b, .int .u32 c, .int .u32 d]) (.int .i64 3)).run Try.prog w = .ok (.int .u32 d) w := by kernel_rfl

theorem valid_imm (M : QI) (h : validR M = true) (x : Int) : validR ⟨M.op, M.d, M.a, M.b, x⟩ = immR (formOf M.op) x := by
  unfold validR validF at h ⊢
  simp only [Bool.and_eq_true] at h
  obtain ⟨h1, h2, h3, h4, h5⟩ := h
  simp only [h1, h2, h3, h4, Bool.true_and]

theorem form_combo (op : Int) : ((formOf op).bits = 0 ∧ (formOf op).sg = false ∧ (formOf op).most = 0) ∨ ((formOf op).bits = 18 ∧ (formOf op).sg = false ∧ (formOf op).most = 0) ∨ ((formOf op).bits = 18 ∧ (formOf op).sg = true ∧ (formOf op).most = 0) ∨
    ((formOf op).bits = 22 ∧ (formOf op).sg = true ∧ (formOf op).most = 0) ∨ ((formOf op).bits = 22 ∧ (formOf op).sg = false ∧ (formOf op).most = 0) ∨ ((formOf op).bits = 18 ∧ (formOf op).sg = false ∧ (formOf op).most = 3) ∨
    ((formOf op).bits = 18 ∧ (formOf op).sg = false ∧ (formOf op).most = 4) := by
  rcases formOf_cases op with h | h | h | h | h | h | h | h | h | h | h <;> rw [h] <;> simp

set_option maxHeartbeats 2000000 in
theorem limits_z (M : QI) (hv : validR M = true) (hM : 0 ≤ M.imm ∧ M.imm < 4294967296) (fis fd fa fb : Bool) (hF : formOf M.op = ⟨fis, fd, fa, fb, false, 0, 0⟩) (n0 n1 n2 n3 n4 far : Int)
    (hG : ∀ w, Calls Try.prog 21 #[.agg #[.int .i64 n0, .int .i64 n1, .int .i64 n2, .int .i64 n3, .int .i64 n4]] w fun e w' => e = .returned (.agg #[.int .i64 M.op, .int .i64 M.d, .int .i64 M.a, .int .i64 M.b, .int .u32 M.imm]) ∧ Below w.heap.size w w') (w : World) :
    Calls Try.prog 10 #[.agg #[.int .i64 n0, .int .i64 n1, .int .i64 n2, .int .i64 n3, .int .i64 n4], .int .i64 far] w fun e w' => e = .returned (.bool true) ∧ Below w.heap.size w w' := by
  have hV := fun (x : Int) (h0 : 0 ≤ x) (h1 : x < 4294967296) (w : World) => valid_any ⟨M.op, M.d, M.a, M.b, x⟩ w h0 h1
  have hO := of_any M.op
  rw [hF] at hO
  have hI := fun x => valid_imm M hv x
  rw [hF] at hI
  have HG := Lib.hid hG
  have HV := Lib.hid hV
  have HO := Lib.hid hO
  have HI := Lib.hid hI
  clear hG hV hO hI hF hv
  go_enter Try.func10, Try.ntmps10
  go_wp2_with fail
  refine (sanity_any _).mono ?_
  rintro e w1 ⟨rfl, hb1⟩
  obtain ⟨hc1, hf1⟩ := bcell hb1
  have hz1 := grew hb1
  go_wp2_with fail
  refine (HG.out _).mono ?_
  rintro e w2 ⟨rfl, hb2⟩
  have hbw : w.heap.size ≤ w2.heap.size := by have h1 := hb1.size; have h2 := hb2.size; simp at h1 h2 ⊢; omega
  clear hc1 hf1
  go_wp2_with fail
  refine (HO.out _).mono ?_
  rintro e w3 ⟨rfl, hb3⟩
  obtain ⟨hc3, hf3⟩ := bcell hb3
  have hz3 : w2.heap.size < w3.heap.size := grew hb3
  go_wp2_with fail
  refine (mod_any _ _ (by omega) (by omega) _).mono ?_
  rintro e w4 ⟨rfl, rfl⟩
  have hr0 : 0 ≤ far % 262144 := by omega
  have hr1 : far % 262144 < 262144 := by omega
  generalize far % 262144 = r at hr0 hr1 ⊢
  go_wp2_with fail
  refine (HV.out _ ?_ ?_ _).mono ?_
  · omega
  · omega
  rintro e w5 ⟨rfl, hb5⟩
  have him : immR { is := fis, d := fd, a := fa, b := fb, sg := false, bits := 0, most := 0 } (1 + r) = false := by
    simp [immR]; omega
  rw [HI.out, him]
  go_wp2
  go_ret
  exact ⟨rfl, (by repeat' (first | with_reducible exact Below.refl _ _ | with_reducible refine below_alloc ?_ _ | with_reducible refine below_drew ?_ | with_reducible refine below_drewN ?_ _ | with_reducible refine below_set ?_ (by first | exact Nat.le_refl _ | (simp <;> omega)) _ | with_reducible refine below_call ?_ (by assumption)))⟩

set_option maxHeartbeats 2000000 in
theorem limits_u18 (M : QI) (hv : validR M = true) (hM : 0 ≤ M.imm ∧ M.imm < 4294967296) (fis fd fa fb : Bool) (hF : formOf M.op = ⟨fis, fd, fa, fb, false, 18, 0⟩) (n0 n1 n2 n3 n4 far : Int)
    (hG : ∀ w, Calls Try.prog 21 #[.agg #[.int .i64 n0, .int .i64 n1, .int .i64 n2, .int .i64 n3, .int .i64 n4]] w fun e w' => e = .returned (.agg #[.int .i64 M.op, .int .i64 M.d, .int .i64 M.a, .int .i64 M.b, .int .u32 M.imm]) ∧ Below w.heap.size w w') (w : World) :
    Calls Try.prog 10 #[.agg #[.int .i64 n0, .int .i64 n1, .int .i64 n2, .int .i64 n3, .int .i64 n4], .int .i64 far] w fun e w' => e = .returned (.bool true) ∧ Below w.heap.size w w' := by
  have hV := fun (x : Int) (h0 : 0 ≤ x) (h1 : x < 4294967296) (w : World) => valid_any ⟨M.op, M.d, M.a, M.b, x⟩ w h0 h1
  have hO := of_any M.op
  rw [hF] at hO
  have hI := fun x => valid_imm M hv x
  rw [hF] at hI
  have HG := Lib.hid hG
  have HV := Lib.hid hV
  have HO := Lib.hid hO
  have HI := Lib.hid hI
  clear hG hV hO hI hF hv
  go_enter Try.func10, Try.ntmps10
  go_wp2_with fail
  refine (sanity_any _).mono ?_
  rintro e w1 ⟨rfl, hb1⟩
  obtain ⟨hc1, hf1⟩ := bcell hb1
  have hz1 := grew hb1
  go_wp2_with fail
  refine (HG.out _).mono ?_
  rintro e w2 ⟨rfl, hb2⟩
  have hbw : w.heap.size ≤ w2.heap.size := by have h1 := hb1.size; have h2 := hb2.size; simp at h1 h2 ⊢; omega
  clear hc1 hf1
  go_wp2_with fail
  refine (HO.out _).mono ?_
  rintro e w3 ⟨rfl, hb3⟩
  obtain ⟨hc3, hf3⟩ := bcell hb3
  have hz3 : w2.heap.size < w3.heap.size := grew hb3
  go_wp2_with fail
  refine (mod_any _ _ (by omega) (by omega) _).mono ?_
  rintro e w4 ⟨rfl, rfl⟩
  have hr0 : 0 ≤ far % 4 := by omega
  have hr1 : far % 4 < 4 := by omega
  generalize far % 4 = d at hr0 hr1 ⊢
  go_wp2_with fail
  have hb : Below w.heap.size w (w3.alloc (.cells #[.bool fis, .bool fd, .bool fa, .bool fb, .bool false, .int .i64 18, .int .u32 0] 47)) := (by repeat' (first | with_reducible exact Below.refl _ _ | with_reducible refine below_alloc ?_ _ | with_reducible refine below_drew ?_ | with_reducible refine below_drewN ?_ _ | with_reducible refine below_set ?_ (by first | exact Nat.le_refl _ | (simp <;> omega)) _ | with_reducible refine below_call ?_ (by assumption)))
  go_loopw [11] (fun i wr => ∃ k : Nat, k ≤ 4 ∧ i = .int .i64 k ∧ (∃ x : Int, wr.cell? ⟨w2.heap.size, 0, none⟩ = some (.int .i64 M.op) ∧ wr.cell? ⟨w2.heap.size, 1, none⟩ = some (.int .i64 M.d) ∧ wr.cell? ⟨w2.heap.size, 2, none⟩ = some (.int .i64 M.a) ∧
      wr.cell? ⟨w2.heap.size, 3, none⟩ = some (.int .i64 M.b) ∧ wr.cell? ⟨w2.heap.size, 4, none⟩ = some (.int .u32 x)) ∧ wr.frozen? ⟨w2.heap.size, 4, none⟩ = false ∧ Below w.heap.size w wr) (fun i _ => 4 - (intOf i).toNat)
  case atStart => exact ⟨0, by omega, rfl, ⟨M.imm, by simp [go_sem, *], by simp [go_sem, *], by simp [go_sem, *], by simp [go_sem, *], by simp [go_sem, *]⟩, by simp [go_sem, *], hb⟩
  case round =>
    clear hb hb1 hb2 hb3 hc3 hf3 hz1 hz3
    obtain ⟨k, hk, rfl, ⟨x, c0, c1, c2, c3, c4⟩, hfz, hb⟩ := hrel
    have hz : w2.heap.size < wr.heap.size := World.block_lt_of_cell? wr _ c0
    by_cases hlt : k < 4
    · have hd : d = 0 ∨ d = 1 ∨ d = 2 ∨ d = 3 := by omega
      have hk4 : k = 0 ∨ k = 1 ∨ k = 2 ∨ k = 3 := by omega
      have x0 := idx50_0
      have x1 := idx50_1
      have x2 := idx50_2
      have x3 := idx50_3
      rcases hk4 with rfl | rfl | rfl | rfl
      all_goals
        go_wp2_with fail
        refine (HV.out _ ?_ ?_ _).mono ?_
        · omega
        · omega
        rintro e w5 ⟨rfl, hb5⟩
        rw [HI.out]
        obtain ⟨hc5, hf5⟩ := bcell hb5
        generalize hx : immR _ _ = bb
        first
          | (have hbb : bb = true := by (rcases hd with rfl | rfl | rfl | rfl <;> (rw [← hx]; simp [immR, sgn, pw]; done)))
          | (have hbb : bb = false := by (rcases hd with rfl | rfl | rfl | rfl <;> (rw [← hx]; simp [immR, sgn, pw]; done)))
        subst hbb
        clear hx
        go_wp2
        go_roundw
        case rel =>
          first
            | exact ⟨1, by omega, by go_num, ⟨_, by simp [go_sem, *]; done, by simp [go_sem, *]; done, by simp [go_sem, *]; done, by simp [go_sem, *]; done, by simp [go_sem, *]; rfl⟩, by simp [go_sem, *]; done, (by repeat' (first | with_reducible exact Below.refl _ _ | with_reducible refine below_alloc ?_ _ | with_reducible refine below_drew ?_ | with_reducible refine below_drewN ?_ _ | with_reducible refine below_set ?_ (by first | exact Nat.le_refl _ | (simp <;> omega)) _ | with_reducible refine below_call ?_ (by assumption)))⟩
            | exact ⟨2, by omega, by go_num, ⟨_, by simp [go_sem, *]; done, by simp [go_sem, *]; done, by simp [go_sem, *]; done, by simp [go_sem, *]; done, by simp [go_sem, *]; rfl⟩, by simp [go_sem, *]; done, (by repeat' (first | with_reducible exact Below.refl _ _ | with_reducible refine below_alloc ?_ _ | with_reducible refine below_drew ?_ | with_reducible refine below_drewN ?_ _ | with_reducible refine below_set ?_ (by first | exact Nat.le_refl _ | (simp <;> omega)) _ | with_reducible refine below_call ?_ (by assumption)))⟩
            | exact ⟨3, by omega, by go_num, ⟨_, by simp [go_sem, *]; done, by simp [go_sem, *]; done, by simp [go_sem, *]; done, by simp [go_sem, *]; done, by simp [go_sem, *]; rfl⟩, by simp [go_sem, *]; done, (by repeat' (first | with_reducible exact Below.refl _ _ | with_reducible refine below_alloc ?_ _ | with_reducible refine below_drew ?_ | with_reducible refine below_drewN ?_ _ | with_reducible refine below_set ?_ (by first | exact Nat.le_refl _ | (simp <;> omega)) _ | with_reducible refine below_call ?_ (by assumption)))⟩
            | exact ⟨4, by omega, by go_num, ⟨_, by simp [go_sem, *]; done, by simp [go_sem, *]; done, by simp [go_sem, *]; done, by simp [go_sem, *]; done, by simp [go_sem, *]; rfl⟩, by simp [go_sem, *]; done, (by repeat' (first | with_reducible exact Below.refl _ _ | with_reducible refine below_alloc ?_ _ | with_reducible refine below_drew ?_ | with_reducible refine below_drewN ?_ _ | with_reducible refine below_set ?_ (by first | exact Nat.le_refl _ | (simp <;> omega)) _ | with_reducible refine below_call ?_ (by assumption)))⟩
        case measure => simp [intOf]
    · obtain rfl : k = 4 := by omega
      go_wp2
      go_ret
      exact ⟨rfl, hb⟩

set_option maxHeartbeats 2000000 in
theorem limits_s18 (M : QI) (hv : validR M = true) (hM : 0 ≤ M.imm ∧ M.imm < 4294967296) (fis fd fa fb : Bool) (hF : formOf M.op = ⟨fis, fd, fa, fb, true, 18, 0⟩) (n0 n1 n2 n3 n4 far : Int)
    (hG : ∀ w, Calls Try.prog 21 #[.agg #[.int .i64 n0, .int .i64 n1, .int .i64 n2, .int .i64 n3, .int .i64 n4]] w fun e w' => e = .returned (.agg #[.int .i64 M.op, .int .i64 M.d, .int .i64 M.a, .int .i64 M.b, .int .u32 M.imm]) ∧ Below w.heap.size w w') (w : World) :
    Calls Try.prog 10 #[.agg #[.int .i64 n0, .int .i64 n1, .int .i64 n2, .int .i64 n3, .int .i64 n4], .int .i64 far] w fun e w' => e = .returned (.bool true) ∧ Below w.heap.size w w' := by
  have hV := fun (x : Int) (h0 : 0 ≤ x) (h1 : x < 4294967296) (w : World) => valid_any ⟨M.op, M.d, M.a, M.b, x⟩ w h0 h1
  have hO := of_any M.op
  rw [hF] at hO
  have hI := fun x => valid_imm M hv x
  rw [hF] at hI
  have HG := Lib.hid hG
  have HV := Lib.hid hV
  have HO := Lib.hid hO
  have HI := Lib.hid hI
  clear hG hV hO hI hF hv
  go_enter Try.func10, Try.ntmps10
  go_wp2_with fail
  refine (sanity_any _).mono ?_
  rintro e w1 ⟨rfl, hb1⟩
  obtain ⟨hc1, hf1⟩ := bcell hb1
  have hz1 := grew hb1
  go_wp2_with fail
  refine (HG.out _).mono ?_
  rintro e w2 ⟨rfl, hb2⟩
  have hbw : w.heap.size ≤ w2.heap.size := by have h1 := hb1.size; have h2 := hb2.size; simp at h1 h2 ⊢; omega
  clear hc1 hf1
  go_wp2_with fail
  refine (HO.out _).mono ?_
  rintro e w3 ⟨rfl, hb3⟩
  obtain ⟨hc3, hf3⟩ := bcell hb3
  have hz3 : w2.heap.size < w3.heap.size := grew hb3
  go_wp2_with fail
  refine (mod_any _ _ (by omega) (by omega) _).mono ?_
  rintro e w4 ⟨rfl, rfl⟩
  have hr0 : 0 ≤ far % 4 := by omega
  have hr1 : far % 4 < 4 := by omega
  generalize far % 4 = d at hr0 hr1 ⊢
  go_wp2_with fail
  have hb : Below w.heap.size w (w3.alloc (.cells #[.bool fis, .bool fd, .bool fa, .bool fb, .bool true, .int .i64 18, .int .u32 0] 47)) := (by repeat' (first | with_reducible exact Below.refl _ _ | with_reducible refine below_alloc ?_ _ | with_reducible refine below_drew ?_ | with_reducible refine below_drewN ?_ _ | with_reducible refine below_set ?_ (by first | exact Nat.le_refl _ | (simp <;> omega)) _ | with_reducible refine below_call ?_ (by assumption)))
  go_loopw [11] (fun i wr => ∃ k : Nat, k ≤ 4 ∧ i = .int .i64 k ∧ (∃ x : Int, wr.cell? ⟨w2.heap.size, 0, none⟩ = some (.int .i64 M.op) ∧ wr.cell? ⟨w2.heap.size, 1, none⟩ = some (.int .i64 M.d) ∧ wr.cell? ⟨w2.heap.size, 2, none⟩ = some (.int .i64 M.a) ∧
      wr.cell? ⟨w2.heap.size, 3, none⟩ = some (.int .i64 M.b) ∧ wr.cell? ⟨w2.heap.size, 4, none⟩ = some (.int .u32 x)) ∧ wr.frozen? ⟨w2.heap.size, 4, none⟩ = false ∧ Below w.heap.size w wr) (fun i _ => 4 - (intOf i).toNat)
  case atStart => exact ⟨0, by omega, rfl, ⟨M.imm, by simp [go_sem, *], by simp [go_sem, *], by simp [go_sem, *], by simp [go_sem, *], by simp [go_sem, *]⟩, by simp [go_sem, *], hb⟩
  case round =>
    clear hb hb1 hb2 hb3 hc3 hf3 hz1 hz3
    obtain ⟨k, hk, rfl, ⟨x, c0, c1, c2, c3, c4⟩, hfz, hb⟩ := hrel
    have hz : w2.heap.size < wr.heap.size := World.block_lt_of_cell? wr _ c0
    by_cases hlt : k < 4
    · have hd : d = 0 ∨ d = 1 ∨ d = 2 ∨ d = 3 := by omega
      have hk4 : k = 0 ∨ k = 1 ∨ k = 2 ∨ k = 3 := by omega
      have x0 := idx50_0
      have x1 := idx50_1
      have x2 := idx50_2
      have x3 := idx50_3
      rcases hk4 with rfl | rfl | rfl | rfl
      all_goals
        go_wp2_with fail
        refine (HV.out _ ?_ ?_ _).mono ?_
        · omega
        · omega
        rintro e w5 ⟨rfl, hb5⟩
        rw [HI.out]
        obtain ⟨hc5, hf5⟩ := bcell hb5
        generalize hx : immR _ _ = bb
        first
          | (have hbb : bb = true := by (rcases hd with rfl | rfl | rfl | rfl <;> (rw [← hx]; simp [immR, sgn, pw]; done)))
          | (have hbb : bb = false := by (rcases hd with rfl | rfl | rfl | rfl <;> (rw [← hx]; simp [immR, sgn, pw]; done)))
        subst hbb
        clear hx
        go_wp2
        go_roundw
        case rel =>
          first
            | exact ⟨1, by omega, by go_num, ⟨_, by simp [go_sem, *]; done, by simp [go_sem, *]; done, by simp [go_sem, *]; done, by simp [go_sem, *]; done, by simp [go_sem, *]; rfl⟩, by simp [go_sem, *]; done, (by repeat' (first | with_reducible exact Below.refl _ _ | with_reducible refine below_alloc ?_ _ | with_reducible refine below_drew ?_ | with_reducible refine below_drewN ?_ _ | with_reducible refine below_set ?_ (by first | exact Nat.le_refl _ | (simp <;> omega)) _ | with_reducible refine below_call ?_ (by assumption)))⟩
            | exact ⟨2, by omega, by go_num, ⟨_, by simp [go_sem, *]; done, by simp [go_sem, *]; done, by simp [go_sem, *]; done, by simp [go_sem, *]; done, by simp [go_sem, *]; rfl⟩, by simp [go_sem, *]; done, (by repeat' (first | with_reducible exact Below.refl _ _ | with_reducible refine below_alloc ?_ _ | with_reducible refine below_drew ?_ | with_reducible refine below_drewN ?_ _ | with_reducible refine below_set ?_ (by first | exact Nat.le_refl _ | (simp <;> omega)) _ | with_reducible refine below_call ?_ (by assumption)))⟩
            | exact ⟨3, by omega, by go_num, ⟨_, by simp [go_sem, *]; done, by simp [go_sem, *]; done, by simp [go_sem, *]; done, by simp [go_sem, *]; done, by simp [go_sem, *]; rfl⟩, by simp [go_sem, *]; done, (by repeat' (first | with_reducible exact Below.refl _ _ | with_reducible refine below_alloc ?_ _ | with_reducible refine below_drew ?_ | with_reducible refine below_drewN ?_ _ | with_reducible refine below_set ?_ (by first | exact Nat.le_refl _ | (simp <;> omega)) _ | with_reducible refine below_call ?_ (by assumption)))⟩
            | exact ⟨4, by omega, by go_num, ⟨_, by simp [go_sem, *]; done, by simp [go_sem, *]; done, by simp [go_sem, *]; done, by simp [go_sem, *]; done, by simp [go_sem, *]; rfl⟩, by simp [go_sem, *]; done, (by repeat' (first | with_reducible exact Below.refl _ _ | with_reducible refine below_alloc ?_ _ | with_reducible refine below_drew ?_ | with_reducible refine below_drewN ?_ _ | with_reducible refine below_set ?_ (by first | exact Nat.le_refl _ | (simp <;> omega)) _ | with_reducible refine below_call ?_ (by assumption)))⟩
        case measure => simp [intOf]
    · obtain rfl : k = 4 := by omega
      go_wp2
      go_ret
      exact ⟨rfl, hb⟩

set_option maxHeartbeats 2000000 in
theorem limits_s22 (M : QI) (hv : validR M = true) (hM : 0 ≤ M.imm ∧ M.imm < 4294967296) (fis fd fa fb : Bool) (hF : formOf M.op = ⟨fis, fd, fa, fb, true, 22, 0⟩) (n0 n1 n2 n3 n4 far : Int)
    (hG : ∀ w, Calls Try.prog 21 #[.agg #[.int .i64 n0, .int .i64 n1, .int .i64 n2, .int .i64 n3, .int .i64 n4]] w fun e w' => e = .returned (.agg #[.int .i64 M.op, .int .i64 M.d, .int .i64 M.a, .int .i64 M.b, .int .u32 M.imm]) ∧ Below w.heap.size w w') (w : World) :
    Calls Try.prog 10 #[.agg #[.int .i64 n0, .int .i64 n1, .int .i64 n2, .int .i64 n3, .int .i64 n4], .int .i64 far] w fun e w' => e = .returned (.bool true) ∧ Below w.heap.size w w' := by
  have hV := fun (x : Int) (h0 : 0 ≤ x) (h1 : x < 4294967296) (w : World) => valid_any ⟨M.op, M.d, M.a, M.b, x⟩ w h0 h1
  have hO := of_any M.op
  rw [hF] at hO
  have hI := fun x => valid_imm M hv x
  rw [hF] at hI
  have HG := Lib.hid hG
  have HV := Lib.hid hV
  have HO := Lib.hid hO
  have HI := Lib.hid hI
  clear hG hV hO hI hF hv
  go_enter Try.func10, Try.ntmps10
  go_wp2_with fail
  refine (sanity_any _).mono ?_
  rintro e w1 ⟨rfl, hb1⟩
  obtain ⟨hc1, hf1⟩ := bcell hb1
  have hz1 := grew hb1
  go_wp2_with fail
  refine (HG.out _).mono ?_
  rintro e w2 ⟨rfl, hb2⟩
  have hbw : w.heap.size ≤ w2.heap.size := by have h1 := hb1.size; have h2 := hb2.size; simp at h1 h2 ⊢; omega
  clear hc1 hf1
  go_wp2_with fail
  refine (HO.out _).mono ?_
  rintro e w3 ⟨rfl, hb3⟩
  obtain ⟨hc3, hf3⟩ := bcell hb3
  have hz3 : w2.heap.size < w3.heap.size := grew hb3
  go_wp2_with fail
  refine (mod_any _ _ (by omega) (by omega) _).mono ?_
  rintro e w4 ⟨rfl, rfl⟩
  have hr0 : 0 ≤ far % 4 := by omega
  have hr1 : far % 4 < 4 := by omega
  generalize far % 4 = d at hr0 hr1 ⊢
  go_wp2_with fail
  have hb : Below w.heap.size w (w3.alloc (.cells #[.bool fis, .bool fd, .bool fa, .bool fb, .bool true, .int .i64 22, .int .u32 0] 47)) := (by repeat' (first | with_reducible exact Below.refl _ _ | with_reducible refine below_alloc ?_ _ | with_reducible refine below_drew ?_ | with_reducible refine below_drewN ?_ _ | with_reducible refine below_set ?_ (by first | exact Nat.le_refl _ | (simp <;> omega)) _ | with_reducible refine below_call ?_ (by assumption)))
  go_loopw [11] (fun i wr => ∃ k : Nat, k ≤ 4 ∧ i = .int .i64 k ∧ (∃ x : Int, wr.cell? ⟨w2.heap.size, 0, none⟩ = some (.int .i64 M.op) ∧ wr.cell? ⟨w2.heap.size, 1, none⟩ = some (.int .i64 M.d) ∧ wr.cell? ⟨w2.heap.size, 2, none⟩ = some (.int .i64 M.a) ∧
      wr.cell? ⟨w2.heap.size, 3, none⟩ = some (.int .i64 M.b) ∧ wr.cell? ⟨w2.heap.size, 4, none⟩ = some (.int .u32 x)) ∧ wr.frozen? ⟨w2.heap.size, 4, none⟩ = false ∧ Below w.heap.size w wr) (fun i _ => 4 - (intOf i).toNat)
  case atStart => exact ⟨0, by omega, rfl, ⟨M.imm, by simp [go_sem, *], by simp [go_sem, *], by simp [go_sem, *], by simp [go_sem, *], by simp [go_sem, *]⟩, by simp [go_sem, *], hb⟩
  case round =>
    clear hb hb1 hb2 hb3 hc3 hf3 hz1 hz3
    obtain ⟨k, hk, rfl, ⟨x, c0, c1, c2, c3, c4⟩, hfz, hb⟩ := hrel
    have hz : w2.heap.size < wr.heap.size := World.block_lt_of_cell? wr _ c0
    by_cases hlt : k < 4
    · have hd : d = 0 ∨ d = 1 ∨ d = 2 ∨ d = 3 := by omega
      have hk4 : k = 0 ∨ k = 1 ∨ k = 2 ∨ k = 3 := by omega
      have x0 := idx50_0
      have x1 := idx50_1
      have x2 := idx50_2
      have x3 := idx50_3
      rcases hk4 with rfl | rfl | rfl | rfl
      all_goals
        go_wp2_with fail
        refine (HV.out _ ?_ ?_ _).mono ?_
        · omega
        · omega
        rintro e w5 ⟨rfl, hb5⟩
        rw [HI.out]
        obtain ⟨hc5, hf5⟩ := bcell hb5
        generalize hx : immR _ _ = bb
        first
          | (have hbb : bb = true := by (rcases hd with rfl | rfl | rfl | rfl <;> (rw [← hx]; simp [immR, sgn, pw]; done)))
          | (have hbb : bb = false := by (rcases hd with rfl | rfl | rfl | rfl <;> (rw [← hx]; simp [immR, sgn, pw]; done)))
        subst hbb
        clear hx
        go_wp2
        go_roundw
        case rel =>
          first
            | exact ⟨1, by omega, by go_num, ⟨_, by simp [go_sem, *]; done, by simp [go_sem, *]; done, by simp [go_sem, *]; done, by simp [go_sem, *]; done, by simp [go_sem, *]; rfl⟩, by simp [go_sem, *]; done, (by repeat' (first | with_reducible exact Below.refl _ _ | with_reducible refine below_alloc ?_ _ | with_reducible refine below_drew ?_ | with_reducible refine below_drewN ?_ _ | with_reducible refine below_set ?_ (by first | exact Nat.le_refl _ | (simp <;> omega)) _ | with_reducible refine below_call ?_ (by assumption)))⟩
            | exact ⟨2, by omega, by go_num, ⟨_, by simp [go_sem, *]; done, by simp [go_sem, *]; done, by simp [go_sem, *]; done, by simp [go_sem, *]; done, by simp [go_sem, *]; rfl⟩, by simp [go_sem, *]; done, (by repeat' (first | with_reducible exact Below.refl _ _ | with_reducible refine below_alloc ?_ _ | with_reducible refine below_drew ?_ | with_reducible refine below_drewN ?_ _ | with_reducible refine below_set ?_ (by first | exact Nat.le_refl _ | (simp <;> omega)) _ | with_reducible refine below_call ?_ (by assumption)))⟩
            | exact ⟨3, by omega, by go_num, ⟨_, by simp [go_sem, *]; done, by simp [go_sem, *]; done, by simp [go_sem, *]; done, by simp [go_sem, *]; done, by simp [go_sem, *]; rfl⟩, by simp [go_sem, *]; done, (by repeat' (first | with_reducible exact Below.refl _ _ | with_reducible refine below_alloc ?_ _ | with_reducible refine below_drew ?_ | with_reducible refine below_drewN ?_ _ | with_reducible refine below_set ?_ (by first | exact Nat.le_refl _ | (simp <;> omega)) _ | with_reducible refine below_call ?_ (by assumption)))⟩
            | exact ⟨4, by omega, by go_num, ⟨_, by simp [go_sem, *]; done, by simp [go_sem, *]; done, by simp [go_sem, *]; done, by simp [go_sem, *]; done, by simp [go_sem, *]; rfl⟩, by simp [go_sem, *]; done, (by repeat' (first | with_reducible exact Below.refl _ _ | with_reducible refine below_alloc ?_ _ | with_reducible refine below_drew ?_ | with_reducible refine below_drewN ?_ _ | with_reducible refine below_set ?_ (by first | exact Nat.le_refl _ | (simp <;> omega)) _ | with_reducible refine below_call ?_ (by assumption)))⟩
        case measure => simp [intOf]
    · obtain rfl : k = 4 := by omega
      go_wp2
      go_ret
      exact ⟨rfl, hb⟩

set_option maxHeartbeats 2000000 in
theorem limits_u22 (M : QI) (hv : validR M = true) (hM : 0 ≤ M.imm ∧ M.imm < 4294967296) (fis fd fa fb : Bool) (hF : formOf M.op = ⟨fis, fd, fa, fb, false, 22, 0⟩) (n0 n1 n2 n3 n4 far : Int)
    (hG : ∀ w, Calls Try.prog 21 #[.agg #[.int .i64 n0, .int .i64 n1, .int .i64 n2, .int .i64 n3, .int .i64 n4]] w fun e w' => e = .returned (.agg #[.int .i64 M.op, .int .i64 M.d, .int .i64 M.a, .int .i64 M.b, .int .u32 M.imm]) ∧ Below w.heap.size w w') (w : World) :
    Calls Try.prog 10 #[.agg #[.int .i64 n0, .int .i64 n1, .int .i64 n2, .int .i64 n3, .int .i64 n4], .int .i64 far] w fun e w' => e = .returned (.bool true) ∧ Below w.heap.size w w' := by
  have hV := fun (x : Int) (h0 : 0 ≤ x) (h1 : x < 4294967296) (w : World) => valid_any ⟨M.op, M.d, M.a, M.b, x⟩ w h0 h1
  have hO := of_any M.op
  rw [hF] at hO
  have hI := fun x => valid_imm M hv x
  rw [hF] at hI
  have HG := Lib.hid hG
  have HV := Lib.hid hV
  have HO := Lib.hid hO
  have HI := Lib.hid hI
  clear hG hV hO hI hF hv
  go_enter Try.func10, Try.ntmps10
  go_wp2_with fail
  refine (sanity_any _).mono ?_
  rintro e w1 ⟨rfl, hb1⟩
  obtain ⟨hc1, hf1⟩ := bcell hb1
  have hz1 := grew hb1
  go_wp2_with fail
  refine (HG.out _).mono ?_
  rintro e w2 ⟨rfl, hb2⟩
  have hbw : w.heap.size ≤ w2.heap.size := by have h1 := hb1.size; have h2 := hb2.size; simp at h1 h2 ⊢; omega
  clear hc1 hf1
  go_wp2_with fail
  refine (HO.out _).mono ?_
  rintro e w3 ⟨rfl, hb3⟩
  obtain ⟨hc3, hf3⟩ := bcell hb3
  have hz3 : w2.heap.size < w3.heap.size := grew hb3
  go_wp2_with fail
  refine (mod_any _ _ (by omega) (by omega) _).mono ?_
  rintro e w4 ⟨rfl, rfl⟩
  have hr0 : 0 ≤ far % 4 := by omega
  have hr1 : far % 4 < 4 := by omega
  generalize far % 4 = d at hr0 hr1 ⊢
  go_wp2_with fail
  have hb : Below w.heap.size w (w3.alloc (.cells #[.bool fis, .bool fd, .bool fa, .bool fb, .bool false, .int .i64 22, .int .u32 0] 47)) := (by repeat' (first | with_reducible exact Below.refl _ _ | with_reducible refine below_alloc ?_ _ | with_reducible refine below_drew ?_ | with_reducible refine below_drewN ?_ _ | with_reducible refine below_set ?_ (by first | exact Nat.le_refl _ | (simp <;> omega)) _ | with_reducible refine below_call ?_ (by assumption)))
  go_loopw [11] (fun i wr => ∃ k : Nat, k ≤ 4 ∧ i = .int .i64 k ∧ (∃ x : Int, wr.cell? ⟨w2.heap.size, 0, none⟩ = some (.int .i64 M.op) ∧ wr.cell? ⟨w2.heap.size, 1, none⟩ = some (.int .i64 M.d) ∧ wr.cell? ⟨w2.heap.size, 2, none⟩ = some (.int .i64 M.a) ∧
      wr.cell? ⟨w2.heap.size, 3, none⟩ = some (.int .i64 M.b) ∧ wr.cell? ⟨w2.heap.size, 4, none⟩ = some (.int .u32 x)) ∧ wr.frozen? ⟨w2.heap.size, 4, none⟩ = false ∧ Below w.heap.size w wr) (fun i _ => 4 - (intOf i).toNat)
  case atStart => exact ⟨0, by omega, rfl, ⟨M.imm, by simp [go_sem, *], by simp [go_sem, *], by simp [go_sem, *], by simp [go_sem, *], by simp [go_sem, *]⟩, by simp [go_sem, *], hb⟩
  case round =>
    clear hb hb1 hb2 hb3 hc3 hf3 hz1 hz3
    obtain ⟨k, hk, rfl, ⟨x, c0, c1, c2, c3, c4⟩, hfz, hb⟩ := hrel
    have hz : w2.heap.size < wr.heap.size := World.block_lt_of_cell? wr _ c0
    by_cases hlt : k < 4
    · have hd : d = 0 ∨ d = 1 ∨ d = 2 ∨ d = 3 := by omega
      have hk4 : k = 0 ∨ k = 1 ∨ k = 2 ∨ k = 3 := by omega
      have x0 := idx50_0
      have x1 := idx50_1
      have x2 := idx50_2
      have x3 := idx50_3
      rcases hk4 with rfl | rfl | rfl | rfl
      all_goals
        go_wp2_with fail
        refine (HV.out _ ?_ ?_ _).mono ?_
        · omega
        · omega
        rintro e w5 ⟨rfl, hb5⟩
        rw [HI.out]
        obtain ⟨hc5, hf5⟩ := bcell hb5
        generalize hx : immR _ _ = bb
        first
          | (have hbb : bb = true := by (rcases hd with rfl | rfl | rfl | rfl <;> (rw [← hx]; simp [immR, sgn, pw]; done)))
          | (have hbb : bb = false := by (rcases hd with rfl | rfl | rfl | rfl <;> (rw [← hx]; simp [immR, sgn, pw]; done)))
        subst hbb
        clear hx
        go_wp2
        go_roundw
        case rel =>
          first
            | exact ⟨1, by omega, by go_num, ⟨_, by simp [go_sem, *]; done, by simp [go_sem, *]; done, by simp [go_sem, *]; done, by simp [go_sem, *]; done, by simp [go_sem, *]; rfl⟩, by simp [go_sem, *]; done, (by repeat' (first | with_reducible exact Below.refl _ _ | with_reducible refine below_alloc ?_ _ | with_reducible refine below_drew ?_ | with_reducible refine below_drewN ?_ _ | with_reducible refine below_set ?_ (by first | exact Nat.le_refl _ | (simp <;> omega)) _ | with_reducible refine below_call ?_ (by assumption)))⟩
            | exact ⟨2, by omega, by go_num, ⟨_, by simp [go_sem, *]; done, by simp [go_sem, *]; done, by simp [go_sem, *]; done, by simp [go_sem, *]; done, by simp [go_sem, *]; rfl⟩, by simp [go_sem, *]; done, (by repeat' (first | with_reducible exact Below.refl _ _ | with_reducible refine below_alloc ?_ _ | with_reducible refine below_drew ?_ | with_reducible refine below_drewN ?_ _ | with_reducible refine below_set ?_ (by first | exact Nat.le_refl _ | (simp <;> omega)) _ | with_reducible refine below_call ?_ (by assumption)))⟩
            | exact ⟨3, by omega, by go_num, ⟨_, by simp [go_sem, *]; done, by simp [go_sem, *]; done, by simp [go_sem, *]; done, by simp [go_sem, *]; done, by simp [go_sem, *]; rfl⟩, by simp [go_sem, *]; done, (by repeat' (first | with_reducible exact Below.refl _ _ | with_reducible refine below_alloc ?_ _ | with_reducible refine below_drew ?_ | with_reducible refine below_drewN ?_ _ | with_reducible refine below_set ?_ (by first | exact Nat.le_refl _ | (simp <;> omega)) _ | with_reducible refine below_call ?_ (by assumption)))⟩
            | exact ⟨4, by omega, by go_num, ⟨_, by simp [go_sem, *]; done, by simp [go_sem, *]; done, by simp [go_sem, *]; done, by simp [go_sem, *]; done, by simp [go_sem, *]; rfl⟩, by simp [go_sem, *]; done, (by repeat' (first | with_reducible exact Below.refl _ _ | with_reducible refine below_alloc ?_ _ | with_reducible refine below_drew ?_ | with_reducible refine below_drewN ?_ _ | with_reducible refine below_set ?_ (by first | exact Nat.le_refl _ | (simp <;> omega)) _ | with_reducible refine below_call ?_ (by assumption)))⟩
        case measure => simp [intOf]
    · obtain rfl : k = 4 := by omega
      go_wp2
      go_ret
      exact ⟨rfl, hb⟩

set_option maxHeartbeats 2000000 in
theorem limits_m3 (M : QI) (hv : validR M = true) (hM : 0 ≤ M.imm ∧ M.imm < 4294967296) (fis fd fa fb : Bool) (hF : formOf M.op = ⟨fis, fd, fa, fb, false, 18, 3⟩) (n0 n1 n2 n3 n4 far : Int)
    (hG : ∀ w, Calls Try.prog 21 #[.agg #[.int .i64 n0, .int .i64 n1, .int .i64 n2, .int .i64 n3, .int .i64 n4]] w fun e w' => e = .returned (.agg #[.int .i64 M.op, .int .i64 M.d, .int .i64 M.a, .int .i64 M.b, .int .u32 M.imm]) ∧ Below w.heap.size w w') (w : World) :
    Calls Try.prog 10 #[.agg #[.int .i64 n0, .int .i64 n1, .int .i64 n2, .int .i64 n3, .int .i64 n4], .int .i64 far] w fun e w' => e = .returned (.bool true) ∧ Below w.heap.size w w' := by
  have hV := fun (x : Int) (h0 : 0 ≤ x) (h1 : x < 4294967296) (w : World) => valid_any ⟨M.op, M.d, M.a, M.b, x⟩ w h0 h1
  have hO := of_any M.op
  rw [hF] at hO
  have hI := fun x => valid_imm M hv x
  rw [hF] at hI
  have HG := Lib.hid hG
  have HV := Lib.hid hV
  have HO := Lib.hid hO
  have HI := Lib.hid hI
  clear hG hV hO hI hF hv
  go_enter Try.func10, Try.ntmps10
  go_wp2_with fail
  refine (sanity_any _).mono ?_
  rintro e w1 ⟨rfl, hb1⟩
  obtain ⟨hc1, hf1⟩ := bcell hb1
  have hz1 := grew hb1
  go_wp2_with fail
  refine (HG.out _).mono ?_
  rintro e w2 ⟨rfl, hb2⟩
  have hbw : w.heap.size ≤ w2.heap.size := by have h1 := hb1.size; have h2 := hb2.size; simp at h1 h2 ⊢; omega
  clear hc1 hf1
  go_wp2_with fail
  refine (HO.out _).mono ?_
  rintro e w3 ⟨rfl, hb3⟩
  obtain ⟨hc3, hf3⟩ := bcell hb3
  have hz3 : w2.heap.size < w3.heap.size := grew hb3
  go_wp2_with fail
  refine (mod_any _ _ (by omega) (by omega) _).mono ?_
  rintro e w4 ⟨rfl, rfl⟩
  have hr0 : 0 ≤ far % 4 := by omega
  have hr1 : far % 4 < 4 := by omega
  generalize far % 4 = d at hr0 hr1 ⊢
  go_wp2_with fail
  have hb : Below w.heap.size w (w3.alloc (.cells #[.bool fis, .bool fd, .bool fa, .bool fb, .bool false, .int .i64 18, .int .u32 3] 47)) := (by repeat' (first | with_reducible exact Below.refl _ _ | with_reducible refine below_alloc ?_ _ | with_reducible refine below_drew ?_ | with_reducible refine below_drewN ?_ _ | with_reducible refine below_set ?_ (by first | exact Nat.le_refl _ | (simp <;> omega)) _ | with_reducible refine below_call ?_ (by assumption)))
  go_loopw [11] (fun i wr => ∃ k : Nat, k ≤ 4 ∧ i = .int .i64 k ∧ (∃ x : Int, wr.cell? ⟨w2.heap.size, 0, none⟩ = some (.int .i64 M.op) ∧ wr.cell? ⟨w2.heap.size, 1, none⟩ = some (.int .i64 M.d) ∧ wr.cell? ⟨w2.heap.size, 2, none⟩ = some (.int .i64 M.a) ∧
      wr.cell? ⟨w2.heap.size, 3, none⟩ = some (.int .i64 M.b) ∧ wr.cell? ⟨w2.heap.size, 4, none⟩ = some (.int .u32 x)) ∧ wr.frozen? ⟨w2.heap.size, 4, none⟩ = false ∧ Below w.heap.size w wr) (fun i _ => 4 - (intOf i).toNat)
  case atStart => exact ⟨0, by omega, rfl, ⟨M.imm, by simp [go_sem, *], by simp [go_sem, *], by simp [go_sem, *], by simp [go_sem, *], by simp [go_sem, *]⟩, by simp [go_sem, *], hb⟩
  case round =>
    clear hb hb1 hb2 hb3 hc3 hf3 hz1 hz3
    obtain ⟨k, hk, rfl, ⟨x, c0, c1, c2, c3, c4⟩, hfz, hb⟩ := hrel
    have hz : w2.heap.size < wr.heap.size := World.block_lt_of_cell? wr _ c0
    by_cases hlt : k < 4
    · have hd : d = 0 ∨ d = 1 ∨ d = 2 ∨ d = 3 := by omega
      have hk4 : k = 0 ∨ k = 1 ∨ k = 2 ∨ k = 3 := by omega
      have x0 := idx50_0
      have x1 := idx50_1
      have x2 := idx50_2
      have x3 := idx50_3
      rcases hk4 with rfl | rfl | rfl | rfl
      all_goals
        go_wp2_with fail
        refine (HV.out _ ?_ ?_ _).mono ?_
        · omega
        · omega
        rintro e w5 ⟨rfl, hb5⟩
        rw [HI.out]
        obtain ⟨hc5, hf5⟩ := bcell hb5
        generalize hx : immR _ _ = bb
        first
          | (have hbb : bb = true := by (rcases hd with rfl | rfl | rfl | rfl <;> (rw [← hx]; simp [immR, sgn, pw]; done)))
          | (have hbb : bb = false := by (rcases hd with rfl | rfl | rfl | rfl <;> (rw [← hx]; simp [immR, sgn, pw]; done)))
        subst hbb
        clear hx
        go_wp2
        go_roundw
        case rel =>
          first
            | exact ⟨1, by omega, by go_num, ⟨_, by simp [go_sem, *]; done, by simp [go_sem, *]; done, by simp [go_sem, *]; done, by simp [go_sem, *]; done, by simp [go_sem, *]; rfl⟩, by simp [go_sem, *]; done, (by repeat' (first | with_reducible exact Below.refl _ _ | with_reducible refine below_alloc ?_ _ | with_reducible refine below_drew ?_ | with_reducible refine below_drewN ?_ _ | with_reducible refine below_set ?_ (by first | exact Nat.le_refl _ | (simp <;> omega)) _ | with_reducible refine below_call ?_ (by assumption)))⟩
            | exact ⟨2, by omega, by go_num, ⟨_, by simp [go_sem, *]; done, by simp [go_sem, *]; done, by simp [go_sem, *]; done, by simp [go_sem, *]; done, by simp [go_sem, *]; rfl⟩, by simp [go_sem, *]; done, (by repeat' (first | with_reducible exact Below.refl _ _ | with_reducible refine below_alloc ?_ _ | with_reducible refine below_drew ?_ | with_reducible refine below_drewN ?_ _ | with_reducible refine below_set ?_ (by first | exact Nat.le_refl _ | (simp <;> omega)) _ | with_reducible refine below_call ?_ (by assumption)))⟩
            | exact ⟨3, by omega, by go_num, ⟨_, by simp [go_sem, *]; done, by simp [go_sem, *]; done, by simp [go_sem, *]; done, by simp [go_sem, *]; done, by simp [go_sem, *]; rfl⟩, by simp [go_sem, *]; done, (by repeat' (first | with_reducible exact Below.refl _ _ | with_reducible refine below_alloc ?_ _ | with_reducible refine below_drew ?_ | with_reducible refine below_drewN ?_ _ | with_reducible refine below_set ?_ (by first | exact Nat.le_refl _ | (simp <;> omega)) _ | with_reducible refine below_call ?_ (by assumption)))⟩
            | exact ⟨4, by omega, by go_num, ⟨_, by simp [go_sem, *]; done, by simp [go_sem, *]; done, by simp [go_sem, *]; done, by simp [go_sem, *]; done, by simp [go_sem, *]; rfl⟩, by simp [go_sem, *]; done, (by repeat' (first | with_reducible exact Below.refl _ _ | with_reducible refine below_alloc ?_ _ | with_reducible refine below_drew ?_ | with_reducible refine below_drewN ?_ _ | with_reducible refine below_set ?_ (by first | exact Nat.le_refl _ | (simp <;> omega)) _ | with_reducible refine below_call ?_ (by assumption)))⟩
        case measure => simp [intOf]
    · obtain rfl : k = 4 := by omega
      go_wp2
      go_ret
      exact ⟨rfl, hb⟩

set_option maxHeartbeats 2000000 in
theorem limits_m4 (M : QI) (hv : validR M = true) (hM : 0 ≤ M.imm ∧ M.imm < 4294967296) (fis fd fa fb : Bool) (hF : formOf M.op = ⟨fis, fd, fa, fb, false, 18, 4⟩) (n0 n1 n2 n3 n4 far : Int)
    (hG : ∀ w, Calls Try.prog 21 #[.agg #[.int .i64 n0, .int .i64 n1, .int .i64 n2, .int .i64 n3, .int .i64 n4]] w fun e w' => e = .returned (.agg #[.int .i64 M.op, .int .i64 M.d, .int .i64 M.a, .int .i64 M.b, .int .u32 M.imm]) ∧ Below w.heap.size w w') (w : World) :
    Calls Try.prog 10 #[.agg #[.int .i64 n0, .int .i64 n1, .int .i64 n2, .int .i64 n3, .int .i64 n4], .int .i64 far] w fun e w' => e = .returned (.bool true) ∧ Below w.heap.size w w' := by
  have hV := fun (x : Int) (h0 : 0 ≤ x) (h1 : x < 4294967296) (w : World) => valid_any ⟨M.op, M.d, M.a, M.b, x⟩ w h0 h1
  have hO := of_any M.op
  rw [hF] at hO
  have hI := fun x => valid_imm M hv x
  rw [hF] at hI
  have HG := Lib.hid hG
  have HV := Lib.hid hV
  have HO := Lib.hid hO
  have HI := Lib.hid hI
  clear hG hV hO hI hF hv
  go_enter Try.func10, Try.ntmps10
  go_wp2_with fail
  refine (sanity_any _).mono ?_
  rintro e w1 ⟨rfl, hb1⟩
  obtain ⟨hc1, hf1⟩ := bcell hb1
  have hz1 := grew hb1
  go_wp2_with fail
  refine (HG.out _).mono ?_
  rintro e w2 ⟨rfl, hb2⟩
  have hbw : w.heap.size ≤ w2.heap.size := by have h1 := hb1.size; have h2 := hb2.size; simp at h1 h2 ⊢; omega
  clear hc1 hf1
  go_wp2_with fail
  refine (HO.out _).mono ?_
  rintro e w3 ⟨rfl, hb3⟩
  obtain ⟨hc3, hf3⟩ := bcell hb3
  have hz3 : w2.heap.size < w3.heap.size := grew hb3
  go_wp2_with fail
  refine (mod_any _ _ (by omega) (by omega) _).mono ?_
  rintro e w4 ⟨rfl, rfl⟩
  have hr0 : 0 ≤ far % 4 := by omega
  have hr1 : far % 4 < 4 := by omega
  generalize far % 4 = d at hr0 hr1 ⊢
  go_wp2_with fail
  have hb : Below w.heap.size w (w3.alloc (.cells #[.bool fis, .bool fd, .bool fa, .bool fb, .bool false, .int .i64 18, .int .u32 4] 47)) := (by repeat' (first | with_reducible exact Below.refl _ _ | with_reducible refine below_alloc ?_ _ | with_reducible refine below_drew ?_ | with_reducible refine below_drewN ?_ _ | with_reducible refine below_set ?_ (by first | exact Nat.le_refl _ | (simp <;> omega)) _ | with_reducible refine below_call ?_ (by assumption)))
  go_loopw [11] (fun i wr => ∃ k : Nat, k ≤ 4 ∧ i = .int .i64 k ∧ (∃ x : Int, wr.cell? ⟨w2.heap.size, 0, none⟩ = some (.int .i64 M.op) ∧ wr.cell? ⟨w2.heap.size, 1, none⟩ = some (.int .i64 M.d) ∧ wr.cell? ⟨w2.heap.size, 2, none⟩ = some (.int .i64 M.a) ∧
      wr.cell? ⟨w2.heap.size, 3, none⟩ = some (.int .i64 M.b) ∧ wr.cell? ⟨w2.heap.size, 4, none⟩ = some (.int .u32 x)) ∧ wr.frozen? ⟨w2.heap.size, 4, none⟩ = false ∧ Below w.heap.size w wr) (fun i _ => 4 - (intOf i).toNat)
  case atStart => exact ⟨0, by omega, rfl, ⟨M.imm, by simp [go_sem, *], by simp [go_sem, *], by simp [go_sem, *], by simp [go_sem, *], by simp [go_sem, *]⟩, by simp [go_sem, *], hb⟩
  case round =>
    clear hb hb1 hb2 hb3 hc3 hf3 hz1 hz3
    obtain ⟨k, hk, rfl, ⟨x, c0, c1, c2, c3, c4⟩, hfz, hb⟩ := hrel
    have hz : w2.heap.size < wr.heap.size := World.block_lt_of_cell? wr _ c0
    by_cases hlt : k < 4
    · have hd : d = 0 ∨ d = 1 ∨ d = 2 ∨ d = 3 := by omega
      have hk4 : k = 0 ∨ k = 1 ∨ k = 2 ∨ k = 3 := by omega
      have x0 := idx50_0
      have x1 := idx50_1
      have x2 := idx50_2
      have x3 := idx50_3
      rcases hk4 with rfl | rfl | rfl | rfl
      all_goals
        go_wp2_with fail
        refine (HV.out _ ?_ ?_ _).mono ?_
        · omega
        · omega
        rintro e w5 ⟨rfl, hb5⟩
        rw [HI.out]
        obtain ⟨hc5, hf5⟩ := bcell hb5
        generalize hx : immR _ _ = bb
        first
          | (have hbb : bb = true := by (rcases hd with rfl | rfl | rfl | rfl <;> (rw [← hx]; simp [immR, sgn, pw]; done)))
          | (have hbb : bb = false := by (rcases hd with rfl | rfl | rfl | rfl <;> (rw [← hx]; simp [immR, sgn, pw]; done)))
        subst hbb
        clear hx
        go_wp2
        go_roundw
        case rel =>
          first
            | exact ⟨1, by omega, by go_num, ⟨_, by simp [go_sem, *]; done, by simp [go_sem, *]; done, by simp [go_sem, *]; done, by simp [go_sem, *]; done, by simp [go_sem, *]; rfl⟩, by simp [go_sem, *]; done, (by repeat' (first | with_reducible exact Below.refl _ _ | with_reducible refine below_alloc ?_ _ | with_reducible refine below_drew ?_ | with_reducible refine below_drewN ?_ _ | with_reducible refine below_set ?_ (by first | exact Nat.le_refl _ | (simp <;> omega)) _ | with_reducible refine below_call ?_ (by assumption)))⟩
            | exact ⟨2, by omega, by go_num, ⟨_, by simp [go_sem, *]; done, by simp [go_sem, *]; done, by simp [go_sem, *]; done, by simp [go_sem, *]; done, by simp [go_sem, *]; rfl⟩, by simp [go_sem, *]; done, (by repeat' (first | with_reducible exact Below.refl _ _ | with_reducible refine below_alloc ?_ _ | with_reducible refine below_drew ?_ | with_reducible refine below_drewN ?_ _ | with_reducible refine below_set ?_ (by first | exact Nat.le_refl _ | (simp <;> omega)) _ | with_reducible refine below_call ?_ (by assumption)))⟩
            | exact ⟨3, by omega, by go_num, ⟨_, by simp [go_sem, *]; done, by simp [go_sem, *]; done, by simp [go_sem, *]; done, by simp [go_sem, *]; done, by simp [go_sem, *]; rfl⟩, by simp [go_sem, *]; done, (by repeat' (first | with_reducible exact Below.refl _ _ | with_reducible refine below_alloc ?_ _ | with_reducible refine below_drew ?_ | with_reducible refine below_drewN ?_ _ | with_reducible refine below_set ?_ (by first | exact Nat.le_refl _ | (simp <;> omega)) _ | with_reducible refine below_call ?_ (by assumption)))⟩
            | exact ⟨4, by omega, by go_num, ⟨_, by simp [go_sem, *]; done, by simp [go_sem, *]; done, by simp [go_sem, *]; done, by simp [go_sem, *]; done, by simp [go_sem, *]; rfl⟩, by simp [go_sem, *]; done, (by repeat' (first | with_reducible exact Below.refl _ _ | with_reducible refine below_alloc ?_ _ | with_reducible refine below_drew ?_ | with_reducible refine below_drewN ?_ _ | with_reducible refine below_set ?_ (by first | exact Nat.le_refl _ | (simp <;> omega)) _ | with_reducible refine below_call ?_ (by assumption)))⟩
        case measure => simp [intOf]
    · obtain rfl : k = 4 := by omega
      go_wp2
      go_ret
      exact ⟨rfl, hb⟩

theorem limits_walk (n0 n1 n2 n3 n4 far : Int) (w : World) :
    Calls Try.prog 10 #[.agg #[.int .i64 n0, .int .i64 n1, .int .i64 n2, .int .i64 n3, .int .i64 n4], .int .i64 far] w fun e w' => e = .returned (.bool true) ∧ Below w.heap.size w w' := by
  have hM := madeR_imm n0 n1 n2 n3 n4
  have hv := made_valid n0 n1 n2 n3 n4
  have hG := made_any n0 n1 n2 n3 n4
  generalize madeR n0 n1 n2 n3 n4 = M at hM hv hG
  have hc := form_combo M.op
  generalize hF : formOf M.op = F at hc
  obtain ⟨fis, fd, fa, fb, sg, bits, most⟩ := F
  simp only at hc
  rcases hc with ⟨rfl, rfl, rfl⟩ | ⟨rfl, rfl, rfl⟩ | ⟨rfl, rfl, rfl⟩ | ⟨rfl, rfl, rfl⟩ | ⟨rfl, rfl, rfl⟩ | ⟨rfl, rfl, rfl⟩ | ⟨rfl, rfl, rfl⟩
  · exact limits_z M hv hM fis fd fa fb hF n0 n1 n2 n3 n4 far hG w
  · exact limits_u18 M hv hM fis fd fa fb hF n0 n1 n2 n3 n4 far hG w
  · exact limits_s18 M hv hM fis fd fa fb hF n0 n1 n2 n3 n4 far hG w
  · exact limits_s22 M hv hM fis fd fa fb hF n0 n1 n2 n3 n4 far hG w
  · exact limits_u22 M hv hM fis fd fa fb hF n0 n1 n2 n3 n4 far hG w
  · exact limits_m3 M hv hM fis fd fa fb hF n0 n1 n2 n3 n4 far hG w
  · exact limits_m4 M hv hM fis fd fa fb hF n0 n1 n2 n3 n4 far hG w

end Go.Proofs.Ytdoanneelnelbaa
