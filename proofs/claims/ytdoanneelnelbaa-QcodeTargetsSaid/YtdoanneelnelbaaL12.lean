/-
  The walk of the law QcodeTargets: it answers true. Condition: the immediates are words.
-/
import Derived.Test.YtdoanneelnelbaaV2
import Derived.Deep.RegionHeld3
import Derived.Deep.Cut
namespace Go.Proofs.Ytdoanneelnelbaa
set_option linter.unusedSimpArgs false
set_option linter.unusedVariables false
open Go.RowKit

attribute [local go_sem] cell_set

theorem cell_alloc_keep {x : World} {b o : Nat} {v : Value} (h : x.cell? ⟨b, o, none⟩ = some v) (ob : Obj) : (x.alloc ob).cell? ⟨b, o, none⟩ = some v := by
  rw [World.cell?_alloc_lt _ _ _ (World.block_lt_of_cell? x _ h)]; exact h

set_option maxHeartbeats 2000000 in
theorem targets_walk (f0 f1 f2 f3 a0 a1 a2 n0 n1 n2 n3 n4 n5 : Int) (h0 : 0 ≤ a0) (h1 : a0 < 4294967296) (b0 : 0 ≤ a1) (b1 : a1 < 4294967296) (d0 : 0 ≤ a2) (d1 : a2 < 4294967296) (w : World) :
    Calls Try.prog 12 #[.agg #[.int .i64 f0, .int .i64 f1, .int .i64 f2, .int .i64 f3], .agg #[.int .u32 a0, .int .u32 a1, .int .u32 a2], .agg #[.int .i64 n0, .int .i64 n1, .int .i64 n2, .int .i64 n3, .int .i64 n4, .int .i64 n5]] w
      fun e w' => e = .returned (.bool true) ∧ Below w.heap.size w w' := by
  have hM := madeR_imm n0 n1 n2 n3 n4
  go_enter Try.func12, Try.ntmps12
  go_wp2_with fail
  refine (sanity_any _).mono ?_
  rintro e w1 ⟨rfl, hb1⟩
  obtain ⟨hc, hfz⟩ := bcell hb1
  have hz2 : w.heap.size + 2 < w1.heap.size := by have := hb1.size; simp at this; omega
  have hz1 : w.heap.size + 1 < w1.heap.size := by omega
  have hz0 : w.heap.size < w1.heap.size := by omega
  go_wp2_with fail
  refine (three_any _ _ _ _ _ _ _ _ _ _ _ _).mono ?_
  rintro e w2 ⟨j, hj0, hj1, rfl, hb2⟩
  have hb : Below w.heap.size w w2 := (by repeat' (first | with_reducible exact Below.refl _ _ | with_reducible refine below_alloc ?_ _ | with_reducible refine below_drew ?_ | with_reducible refine below_drewN ?_ _ | with_reducible refine below_set ?_ (by first | exact Nat.le_refl _ | (simp <;> omega)) _ | with_reducible refine below_call ?_ (by assumption)))
  have h3 := three_new w2 ⟨f0, f1, f2, f3, a0⟩ (madeR n0 n1 n2 n3 n4) j
  have hq : ∀ k, k < 3 → 0 ≤ ((fun k => if k = 0 then (⟨f0, f1, f2, f3, a0⟩ : QI) else if k = 1 then madeR n0 n1 n2 n3 n4 else j) k).imm ∧ ((fun k => if k = 0 then (⟨f0, f1, f2, f3, a0⟩ : QI) else if k = 1 then madeR n0 n1 n2 n3 n4 else j) k).imm < 4294967296 := by
    intro k hk
    have h3 : k = 0 ∨ k = 1 ∨ k = 2 := by omega
    rcases h3 with rfl | rfl | rfl
    · exact ⟨h0, h1⟩
    · exact hM
    · exact ⟨hj0, hj1⟩
  generalize (fun k => if k = 0 then (⟨f0, f1, f2, f3, a0⟩ : QI) else if k = 1 then madeR n0 n1 n2 n3 n4 else j) = Q at h3 hq
  have hz2' := hb2.size
  have g1 : w2.cell? ⟨w.heap.size + 1, 1, none⟩ = some (.int .u32 a1) := cell_keep hb2 (by rw [hc _ _ (by simp <;> omega)]; simp [go_sem])
  have g2 : w2.cell? ⟨w.heap.size + 1, 2, none⟩ = some (.int .u32 a2) := cell_keep hb2 (by rw [hc _ _ (by simp <;> omega)]; simp [go_sem])
  clear hc hfz hb1 hb2
  go_wp2
  have g1 := cell_alloc_keep g1 (.cells #[.int .i64 f0, .int .i64 f1, .int .i64 f2, .int .i64 f3, .int .u32 a0, .int .i64 (madeR n0 n1 n2 n3 n4).op, .int .i64 (madeR n0 n1 n2 n3 n4).d, .int .i64 (madeR n0 n1 n2 n3 n4).a, .int .i64 (madeR n0 n1 n2 n3 n4).b, .int .u32 (madeR n0 n1 n2 n3 n4).imm, .int .i64 j.op, .int .i64 j.d, .int .i64 j.a, .int .i64 j.b, .int .u32 j.imm] 28)
  have g2 := cell_alloc_keep g2 (.cells #[.int .i64 f0, .int .i64 f1, .int .i64 f2, .int .i64 f3, .int .u32 a0, .int .i64 (madeR n0 n1 n2 n3 n4).op, .int .i64 (madeR n0 n1 n2 n3 n4).d, .int .i64 (madeR n0 n1 n2 n3 n4).a, .int .i64 (madeR n0 n1 n2 n3 n4).b, .int .u32 (madeR n0 n1 n2 n3 n4).imm, .int .i64 j.op, .int .i64 j.d, .int .i64 j.a, .int .i64 j.b, .int .u32 j.imm] 28)
  have hbw := below_alloc hb (.cells #[.int .i64 f0, .int .i64 f1, .int .i64 f2, .int .i64 f3, .int .u32 a0, .int .i64 (madeR n0 n1 n2 n3 n4).op, .int .i64 (madeR n0 n1 n2 n3 n4).d, .int .i64 (madeR n0 n1 n2 n3 n4).a, .int .i64 (madeR n0 n1 n2 n3 n4).b, .int .u32 (madeR n0 n1 n2 n3 n4).imm, .int .i64 j.op, .int .i64 j.d, .int .i64 j.a, .int .i64 j.b, .int .u32 j.imm] 28)
  clear hb
  go_loopw [9] (fun i wr => ∃ k : Nat, k ≤ 3 ∧ i = .int .i64 k ∧ Three wr w2.heap.size Q ∧ wr.cell? ⟨w.heap.size + 1, 1, none⟩ = some (.int .u32 a1) ∧ wr.cell? ⟨w.heap.size + 1, 2, none⟩ = some (.int .u32 a2) ∧ Below w.heap.size w wr) (fun i _ => 3 - (intOf i).toNat)
  case atStart => exact ⟨0, by omega, rfl, h3, g1, g2, hbw⟩
  case round =>
    clear h3 hbw g1 g2
    obtain ⟨k, hk, rfl, h3, g1, g2, hb⟩ := hrel
    by_cases hlt : k < 3
    · obtain ⟨q0, q1⟩ := hq k hlt
      have hk0 : (0 : Int) ≤ (k : Int) := by omega
      have hk3 : (k : Int) < 3 := by omega
      obtain ⟨c0, c1, c2, c3, c4⟩ := three_cells h3 k hlt
      have hT1 := fun w => tgt_any (Q k) a1 w
      have hT2 := fun w => tgtRef_any (Q k) a1 w
      have hT3 := fun w => tgt_any (Q k) ((a1 + a2) % 4294967296) w
      have hwb : 0 ≤ tgtW (Q k) a1 ∧ tgtW (Q k) a1 < 4294967296 := by unfold tgtW; split <;> omega
      have hwr := IntKind.wrap_u32' (a1 + a2)
      cases htb : tgtB (Q k)
      all_goals
        have e3 : tgtW (Q k) ((a1 + a2) % 4294967296) = if tgtB (Q k) then (tgtW (Q k) a1 + a2) % 4294967296 else 0 := by
          unfold tgtW; rw [htb]; simp; try omega
        rw [e3, htb] at hT3
        rw [htb] at hT1 hT2
        simp only [if_true, Bool.false_eq_true, if_false] at hT3
        generalize tgtW (Q k) a1 = W1 at *
        have HT1 : Hid (∀ w, 0 ≤ (Q k).imm → (Q k).imm < 4294967296 → _) := fun w q0 q1 => hT1 w q0 q1 b0 b1
        have HT2 : Hid (∀ w, 0 ≤ (Q k).imm → (Q k).imm < 4294967296 → _) := fun w q0 q1 => hT2 w q0 q1 b0 b1
        have HT3 : Hid (∀ w, 0 ≤ (Q k).imm → (Q k).imm < 4294967296 → _) := fun w q0 q1 => hT3 w q0 q1 (by omega) (by omega)
        clear hT1 hT2 hT3 htb e3
        go_upto_region 6 with (fail)
        go_region_held3 (fun w' => w'.cell? ⟨w2.heap.size, k * 5, none⟩ = some (.int .i64 (Q k).op) ∧ w'.cell? ⟨w2.heap.size, k * 5 + 1, none⟩ = some (.int .i64 (Q k).d) ∧ w'.cell? ⟨w2.heap.size, k * 5 + 2, none⟩ = some (.int .i64 (Q k).a) ∧ w'.cell? ⟨w2.heap.size, k * 5 + 3, none⟩ = some (.int .i64 (Q k).b) ∧ w'.cell? ⟨w2.heap.size, k * 5 + 4, none⟩ = some (.int .u32 (Q k).imm) ∧ w'.cell? ⟨w.heap.size + 1, 1, none⟩ = some (.int .u32 a1) ∧ w'.cell? ⟨w.heap.size + 1, 2, none⟩ = some (.int .u32 a2)) (first | (go_split_ands; (repeat' apply And.intro) <;> (first | with_reducible assumption | (with_reducible (apply cell_keep <;> assumption)) | (simp [go_sem, *]; done))))
          (first | (go_at_call 27; (with_reducible refine (HT1.out _ q0 q1).mono ?_); rintro e v1 ⟨rfl, hbv1⟩))
        go_split_ands
        go_upto_region 7 with (fail)
        go_region_held3 (fun w' => w'.cell? ⟨w2.heap.size, k * 5, none⟩ = some (.int .i64 (Q k).op) ∧ w'.cell? ⟨w2.heap.size, k * 5 + 1, none⟩ = some (.int .i64 (Q k).d) ∧ w'.cell? ⟨w2.heap.size, k * 5 + 2, none⟩ = some (.int .i64 (Q k).a) ∧ w'.cell? ⟨w2.heap.size, k * 5 + 3, none⟩ = some (.int .i64 (Q k).b) ∧ w'.cell? ⟨w2.heap.size, k * 5 + 4, none⟩ = some (.int .u32 (Q k).imm) ∧ w'.cell? ⟨w.heap.size + 1, 1, none⟩ = some (.int .u32 a1) ∧ w'.cell? ⟨w.heap.size + 1, 2, none⟩ = some (.int .u32 a2)) (first | (go_split_ands; (repeat' apply And.intro) <;> (first | with_reducible assumption | (with_reducible (apply cell_keep <;> assumption)) | (simp [go_sem, *]; done))))
          (first | (go_at_call 28; (with_reducible refine (HT2.out _ q0 q1).mono ?_); rintro e v2 ⟨rfl, hbv2⟩))
        go_split_ands
        go_upto_region 8 with (fail)
        go_region_held3 (fun w' => w'.cell? ⟨w2.heap.size, k * 5, none⟩ = some (.int .i64 (Q k).op) ∧ w'.cell? ⟨w2.heap.size, k * 5 + 1, none⟩ = some (.int .i64 (Q k).d) ∧ w'.cell? ⟨w2.heap.size, k * 5 + 2, none⟩ = some (.int .i64 (Q k).a) ∧ w'.cell? ⟨w2.heap.size, k * 5 + 3, none⟩ = some (.int .i64 (Q k).b) ∧ w'.cell? ⟨w2.heap.size, k * 5 + 4, none⟩ = some (.int .u32 (Q k).imm) ∧ w'.cell? ⟨w.heap.size + 1, 1, none⟩ = some (.int .u32 a1) ∧ w'.cell? ⟨w.heap.size + 1, 2, none⟩ = some (.int .u32 a2)) (first | (go_split_ands; (repeat' apply And.intro) <;> (first | with_reducible assumption | (with_reducible (apply cell_keep <;> assumption)) | (simp [go_sem, *]; done))))
          (first | (go_at_call 27; (with_reducible refine (HT3.out _ q0 q1).mono ?_); rintro e v3 ⟨rfl, hbv3⟩))
        go_split_ands
        have hbx : Below wr.heap.size wr v3 := (by repeat' (first | with_reducible exact Below.refl _ _ | with_reducible refine below_alloc ?_ _ | with_reducible refine below_drew ?_ | with_reducible refine below_drewN ?_ _ | with_reducible refine below_set ?_ (by first | exact Nat.le_refl _ | (simp <;> omega)) _ | with_reducible refine below_call ?_ (by assumption)))
        have hT5 := three_keep hbx h3
        have hB5 := below_call hb hbx
        have hA1 := cell_keep hbx g1
        have hA2 := cell_keep hbx g2
        clear hbx h3 hb c0 c1 c2 c3 c4 hbv1 hbv2 hbv3
        go_wp2
        go_roundw
        case rel => exact ⟨k + 1, by omega, by go_num, hT5, hA1, hA2, hB5⟩
        case measure => simp [intOf]; omega
    · go_wp2
      go_ret
      exact ⟨rfl, hb⟩

end Go.Proofs.Ytdoanneelnelbaa
