/-
  The walk of the law QcodeValid: it answers true. Condition: the immediate is a word.
-/
import Derived.Test.YtdoanneelnelbaaV2
namespace Go.Proofs.Ytdoanneelnelbaa
set_option linter.unusedSimpArgs false
set_option linter.unusedVariables false
open Go.RowKit

attribute [local go_sem] cell_set

set_option maxHeartbeats 1000000 in
theorem valid_walk (f0 f1 f2 f3 imm n0 n1 n2 n3 n4 n5 : Int) (h0 : 0 ≤ imm) (h1 : imm < 4294967296) (w : World) :
    Calls Try.prog 4 #[.agg #[.int .i64 f0, .int .i64 f1, .int .i64 f2, .int .i64 f3], .int .u32 imm, .agg #[.int .i64 n0, .int .i64 n1, .int .i64 n2, .int .i64 n3, .int .i64 n4, .int .i64 n5]] w
      fun e w' => e = .returned (.bool true) ∧ Below w.heap.size w w' := by
  have hM := madeR_imm n0 n1 n2 n3 n4
  go_enter Try.func4, Try.ntmps4
  go_wp2_with fail
  refine (sanity_any _).mono ?_
  rintro e w1 ⟨rfl, hb1⟩
  obtain ⟨hc, hfz⟩ := bcell hb1
  have hz1 : w.heap.size + 1 < w1.heap.size := by have := hb1.size; simp at this; omega
  have hz0 : w.heap.size < w1.heap.size := by omega
  go_wp2_with fail
  refine (three_any _ _ _ _ _ _ _ _ _ _ _ _).mono ?_
  rintro e w2 ⟨j, hj0, hj1, rfl, hb2⟩
  have hb : Below w.heap.size w w2 := (by repeat' (first | with_reducible exact Below.refl _ _ | with_reducible refine below_alloc ?_ _ | with_reducible refine below_drew ?_ | with_reducible refine below_drewN ?_ _ | with_reducible refine below_set ?_ (by first | exact Nat.le_refl _ | (simp <;> omega)) _ | with_reducible refine below_call ?_ (by assumption)))
  have h3 := three_new w2 ⟨f0, f1, f2, f3, imm⟩ (madeR n0 n1 n2 n3 n4) j
  have hq : ∀ k, k < 3 → 0 ≤ ((fun k => if k = 0 then (⟨f0, f1, f2, f3, imm⟩ : QI) else if k = 1 then madeR n0 n1 n2 n3 n4 else j) k).imm ∧ ((fun k => if k = 0 then (⟨f0, f1, f2, f3, imm⟩ : QI) else if k = 1 then madeR n0 n1 n2 n3 n4 else j) k).imm < 4294967296 := by
    intro k hk
    have h3 : k = 0 ∨ k = 1 ∨ k = 2 := by omega
    rcases h3 with rfl | rfl | rfl
    · exact ⟨h0, h1⟩
    · exact hM
    · exact ⟨hj0, hj1⟩
  generalize (fun k => if k = 0 then (⟨f0, f1, f2, f3, imm⟩ : QI) else if k = 1 then madeR n0 n1 n2 n3 n4 else j) = Q at h3 hq
  clear hc hfz hb1 hb2
  go_wp2
  have hbw := below_alloc hb (.cells #[.int .i64 f0, .int .i64 f1, .int .i64 f2, .int .i64 f3, .int .u32 imm, .int .i64 (madeR n0 n1 n2 n3 n4).op, .int .i64 (madeR n0 n1 n2 n3 n4).d, .int .i64 (madeR n0 n1 n2 n3 n4).a, .int .i64 (madeR n0 n1 n2 n3 n4).b, .int .u32 (madeR n0 n1 n2 n3 n4).imm, .int .i64 j.op, .int .i64 j.d, .int .i64 j.a, .int .i64 j.b, .int .u32 j.imm] 28)
  clear hb
  go_loopw [9] (fun i wr => ∃ k : Nat, k ≤ 3 ∧ i = .int .i64 k ∧ Three wr w2.heap.size Q ∧ Below w.heap.size w wr) (fun i _ => 3 - (intOf i).toNat)
  case atStart => exact ⟨0, by omega, rfl, h3, hbw⟩
  case round =>
    clear h3 hbw
    obtain ⟨k, hk, rfl, h3, hb⟩ := hrel
    by_cases hlt : k < 3
    · obtain ⟨q0, q1⟩ := hq k hlt
      have hk0 : (0 : Int) ≤ (k : Int) := by omega
      have hk3 : (k : Int) < 3 := by omega
      have hE := enc_any (Q k)
      have hV := valid_any (Q k)
      have hR := validRef_any (Q k)
      have hee : encE (Q k) = if validR (Q k) then 0 else 12 := rfl
      rw [hee] at hE
      generalize encW (Q k) = W at hE
      cases hv : validR (Q k)
      all_goals
        rw [hv] at hE hV hR
        simp only [if_true, Bool.false_eq_true, if_false] at hE
        have HE := Lib.hid hE
        have HV := Lib.hid hV
        have HR := Lib.hid hR
        clear hE hV hR hv hee
        obtain ⟨c0, c1, c2, c3, c4⟩ := three_cells h3 k hlt
        go_wp2_with fail
        refine (HE.out _ q0 q1).mono ?_
        rintro e w3 ⟨rfl, hx3⟩
        have hT3 := three_keep hx3 h3
        have hB3 := below_call hb hx3
        clear c0 c1 c2 c3 c4 h3 hb hx3
        obtain ⟨c0, c1, c2, c3, c4⟩ := three_cells hT3 k hlt
        go_wp2_with fail
        refine (HV.out _ q0 q1).mono ?_
        rintro e w4 ⟨rfl, hx4⟩
        have hT4 := three_keep hx4 hT3
        have hB4 := below_call hB3 hx4
        clear c0 c1 c2 c3 c4 hT3 hB3 hx4
        obtain ⟨c0, c1, c2, c3, c4⟩ := three_cells hT4 k hlt
        go_wp2_with fail
        refine (HR.out _ q0 q1).mono ?_
        rintro e w5 ⟨rfl, hx5⟩
        have hT5 := three_keep hx5 hT4
        have hB5 := below_call hB4 hx5
        clear c0 c1 c2 c3 c4 hT4 hB4 hx5
        go_wp2
        go_roundw
        case rel => exact ⟨k + 1, by omega, by go_num, hT5, hB5⟩
        case measure => simp [intOf]; omega
    · go_wp2
      go_ret
      exact ⟨rfl, hb⟩

end Go.Proofs.Ytdoanneelnelbaa
