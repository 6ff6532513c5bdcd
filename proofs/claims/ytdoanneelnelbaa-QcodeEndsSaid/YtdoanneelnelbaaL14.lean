/-
  The walk of the law QcodeEnds: it answers true. Condition: the immediate is a word.
-/
import Derived.Test.YtdoanneelnelbaaV2
import Derived.Deep.RegionHeld3
import Derived.Deep.Cut
namespace Go.Proofs.Ytdoanneelnelbaa
set_option linter.unusedSimpArgs false
set_option linter.unusedVariables false
open Go.RowKit

attribute [local go_sem] cell_set

set_option maxHeartbeats 1000000 in
theorem ends_walk (f0 f1 f2 f3 imm n0 n1 n2 n3 n4 n5 : Int) (h0 : 0 ≤ imm) (h1 : imm < 4294967296) (w : World) :
    Calls Try.prog 14 #[.agg #[.int .i64 f0, .int .i64 f1, .int .i64 f2, .int .i64 f3], .int .u32 imm, .agg #[.int .i64 n0, .int .i64 n1, .int .i64 n2, .int .i64 n3, .int .i64 n4, .int .i64 n5]] w
      fun e w' => e = .returned (.bool true) ∧ Below w.heap.size w w' := by
  have hM := madeR_imm n0 n1 n2 n3 n4
  go_enter Try.func14, Try.ntmps14
  go_wp2_with fail
  refine (sanity_any _).mono ?_
  rintro e w1 ⟨rfl, hb1⟩
  obtain ⟨hc, hfz⟩ := bcell hb1
  have hz1 : w.heap.size + 1 < w1.heap.size := by have := hb1.size; simp at this; omega
  have hz0 : w.heap.size < w1.heap.size := by omega
  go_wp2_with fail
  refine (three_any _ _ _ _ _ _ _ _ _ _ _ _).mono ?_
  rintro e w2 ⟨j, hj0, hj1, rfl, hb2⟩
  have hb : Below w.heap.size w w2 := (by repeat' (first | with_reducible exact Below.refl _ _ | with_reducible refine below_alloc ?_ _ | with_reducible refine below_drew ?_ | with_reducible refine below_drewN ?_ _ | with_reducible refine below_set ?_ (by first | exact Nat.le_refl _ | (simp <;> omega)) _ | with_reducible refine below_call ?_ (by assumption)))
  have h3 := three_new w2 ⟨f0, f1, f2, f3, imm⟩ (madeR n0 n1 n2 n3 n4) j
  have hq : ∀ k, k < 3 → 0 ≤ ((fun k => if k = 0 then (⟨f0, f1, f2, f3, imm⟩ : QI) else if k = 1 then madeR n0 n1 n2 n3 n4 else j) k).imm ∧ ((fun k => if k = 0 then (⟨f0, f1, f2, f3, imm⟩ : QI) else if k = 1 then madeR n0 n1 n2 n3 n4 else j) k).imm < 4294967296 := by
    intro k hk
    have h3 : k = 0 ∨ k = 1 ∨ k = 2 := by omega
    rcases h3 with rfl | rfl | rfl
    · exact ⟨h0, h1⟩
    · exact hM
    · exact ⟨hj0, hj1⟩
  generalize (fun k => if k = 0 then (⟨f0, f1, f2, f3, imm⟩ : QI) else if k = 1 then madeR n0 n1 n2 n3 n4 else j) = Q at h3 hq
  clear hc hfz hb1 hb2
  go_wp2
  have hbw := below_alloc hb (.cells #[.int .i64 f0, .int .i64 f1, .int .i64 f2, .int .i64 f3, .int .u32 imm, .int .i64 (madeR n0 n1 n2 n3 n4).op, .int .i64 (madeR n0 n1 n2 n3 n4).d, .int .i64 (madeR n0 n1 n2 n3 n4).a, .int .i64 (madeR n0 n1 n2 n3 n4).b, .int .u32 (madeR n0 n1 n2 n3 n4).imm, .int .i64 j.op, .int .i64 j.d, .int .i64 j.a, .int .i64 j.b, .int .u32 j.imm] 28)
  clear hb
  go_loopw [9] (fun i wr => ∃ k : Nat, k ≤ 3 ∧ i = .int .i64 k ∧ Three wr w2.heap.size Q ∧ Below w.heap.size w wr) (fun i _ => 3 - (intOf i).toNat)
  case atStart => exact ⟨0, by omega, rfl, h3, hbw⟩
  case round =>
    clear h3 hbw
    obtain ⟨k, hk, rfl, h3, hb⟩ := hrel
    by_cases hlt : k < 3
    · obtain ⟨q0, q1⟩ := hq k hlt
      have hk0 : (0 : Int) ≤ (k : Int) := by omega
      have hk3 : (k : Int) < 3 := by omega
      obtain ⟨c0, c1, c2, c3, c4⟩ := three_cells h3 k hlt
      go_upto_region 6 with (fail)
      go_region_held3 (fun w' => w'.cell? ⟨w2.heap.size, k * 5, none⟩ = some (.int .i64 (Q k).op) ∧ w'.cell? ⟨w2.heap.size, k * 5 + 1, none⟩ = some (.int .i64 (Q k).d) ∧ w'.cell? ⟨w2.heap.size, k * 5 + 2, none⟩ = some (.int .i64 (Q k).a) ∧ w'.cell? ⟨w2.heap.size, k * 5 + 3, none⟩ = some (.int .i64 (Q k).b) ∧ w'.cell? ⟨w2.heap.size, k * 5 + 4, none⟩ = some (.int .u32 (Q k).imm)) (first | (go_split_ands; (repeat' apply And.intro) <;> (first | with_reducible assumption | (with_reducible (apply cell_keep <;> assumption)) | (simp [go_sem, *]; done))))
        (first | (go_at_call 31; (with_reducible refine (ends_any _ _ _ _ _ _).mono ?_); rintro e wn ⟨rfl, hbn⟩) | (go_at_call 32; (with_reducible refine (endsRef_any _ _ _ _ _ _).mono ?_); rintro e wn ⟨rfl, hbn⟩))
      have hbx : Below wr.heap.size wr wn := (by repeat' (first | with_reducible exact Below.refl _ _ | with_reducible refine below_alloc ?_ _ | with_reducible refine below_drew ?_ | with_reducible refine below_drewN ?_ _ | with_reducible refine below_set ?_ (by first | exact Nat.le_refl _ | (simp <;> omega)) _ | with_reducible refine below_call ?_ (by assumption)))
      have hT5 := three_keep hbx h3
      have hB5 := below_call hb hbx
      clear hbx h3 hb c0 c1 c2 c3 c4
      go_wp2
      go_roundw
      case rel => exact ⟨k + 1, by omega, by go_num, hT5, hB5⟩
      case measure => simp [intOf]; omega
    · go_wp2
      go_ret
      exact ⟨rfl, hb⟩

end Go.Proofs.Ytdoanneelnelbaa
