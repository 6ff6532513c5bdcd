/-
  The walk of the law QcodeOnce: it answers true. No condition.
-/
import Derived.Test.YtdoanneelnelbaaV2
import Derived.Test.YtdoanneelnelbaaM
import Derived.Deep.RegionHeld3
import Derived.Deep.Cut
namespace Go.Proofs.Ytdoanneelnelbaa
set_option linter.unusedSimpArgs false
set_option linter.unusedVariables false
open Go.RowKit

attribute [local go_sem] cell_set

theorem equal27b (k : Nat) (A B : QI) (w : World) :
    (Op.equalIn (k + 2) 27 (.agg #[.int .i64 A.op, .int .i64 A.d, .int .i64 A.a, .int .i64 A.b, .int .u32 A.imm]) (.agg #[.int .i64 B.op, .int .i64 B.d, .int .i64 B.a, .int .i64 B.b, .int .u32 B.imm])).run Try.prog w = .ok (decide (A = B)) w := by
  rw [run_equalIn_struct (P := Try.prog) w (k + 1) 27 _ _ (by kernel_rfl) (by kernel_rfl)]
  obtain ⟨a0, a1, a2, a3, a4⟩ := A
  obtain ⟨b0, b1, b2, b3, b4⟩ := B
  simp only [QI.mk.injEq]
  by_cases h0 : a0 = b0 <;> by_cases h1 : a1 = b1 <;> by_cases h2 : a2 = b2 <;> by_cases h3 : a3 = b3 <;> by_cases h4 : a4 = b4 <;> simp [go_sem, h0, h1, h2, h3, h4]

theorem eql27 (A B : QI) (w : World) :
    (binOp .eql 27 (.agg #[.int .i64 A.op, .int .i64 A.d, .int .i64 A.a, .int .i64 A.b, .int .u32 A.imm]) (.agg #[.int .i64 B.op, .int .i64 B.d, .int .i64 B.a, .int .i64 B.b, .int .u32 B.imm])).run Try.prog w = .ok (.bool (decide (A = B))) w := by
  rw [run_eql_struct, equal27b 9998]
  rfl

theorem range_new (x : World) (C : Array Value) (t : TypeId) (b : Nat) (hb : b = x.heap.size) : (x.alloc (.cells C t)).rangeAt b 0 C.toList := by
  subst hb
  have := World.rangeAt_of_block (heap_alloc_new' x (.cells C t)) 0 C.size
  have e : (C.extract 0 (0 + C.size)).toList = C.toList := by simp
  rwa [e] at this
theorem range5 {x : World} {b : Nat} {v0 v1 v2 v3 v4 : Value} (h : x.rangeAt b 0 [v0, v1, v2, v3, v4]) :
    x.cell? ⟨b, 0, none⟩ = some v0 ∧ x.cell? ⟨b, 1, none⟩ = some v1 ∧ x.cell? ⟨b, 2, none⟩ = some v2 ∧ x.cell? ⟨b, 3, none⟩ = some v3 ∧ x.cell? ⟨b, 4, none⟩ = some v4 :=
  ⟨h 0 _ rfl, h 1 _ rfl, h 2 _ rfl, h 3 _ rfl, h 4 _ rfl⟩

theorem word_inj (A B : QI) (hA : validR A = true) (hB : validR B = true) (a0 : 0 ≤ A.imm) (a1 : A.imm < 4294967296) (b0 : 0 ≤ B.imm) (b1 : B.imm < 4294967296) : (wordR A == wordR B) = decide (A = B) := by
  rw [Bool.eq_iff_iff, beq_iff_eq, decide_eq_true_eq]
  constructor
  · intro h
    rw [← (dec_enc A hA a0 a1).1, h, (dec_enc B hB b0 b1).1]
  · intro h; rw [h]


set_option maxHeartbeats 2000000 in
theorem once_0 (n0 n1 n2 n3 n4 m0 m1 m2 m3 m4 k : Int) (hk : k % 5 = 0) (w : World) :
    Calls Try.prog 11 #[.agg #[.int .i64 n0, .int .i64 n1, .int .i64 n2, .int .i64 n3, .int .i64 n4], .agg #[.int .i64 m0, .int .i64 m1, .int .i64 m2, .int .i64 m3, .int .i64 m4], .int .i64 k] w fun e w' => e = .returned (.bool true) ∧ Below w.heap.size w w' := by
  have hA := madeR_imm n0 n1 n2 n3 n4
  have hB := madeR_imm m0 m1 m2 m3 m4
  have hC := madeR_imm m0 n1 n2 n3 n4
  have vA := made_valid n0 n1 n2 n3 n4
  have vB := made_valid m0 m1 m2 m3 m4
  have vC := made_valid m0 n1 n2 n3 n4
  have gA := made_any n0 n1 n2 n3 n4
  have gB := made_any m0 m1 m2 m3 m4
  have gC := made_any m0 n1 n2 n3 n4
  have xy := word_inj _ _ vA vB hA.1 hA.2 hB.1 hB.2
  have xz := word_inj _ _ vA vC hA.1 hA.2 hC.1 hC.2
  have eA := fun w => enc_any (madeR n0 n1 n2 n3 n4) w hA.1 hA.2
  have eB := fun w => enc_any (madeR m0 m1 m2 m3 m4) w hB.1 hB.2
  have eC := fun w => enc_any (madeR m0 n1 n2 n3 n4) w hC.1 hC.2
  rw [encE_of vA, encW_of vA] at eA
  rw [encE_of vB, encW_of vB] at eB
  rw [encE_of vC, encW_of vC] at eC
  generalize wordR (madeR n0 n1 n2 n3 n4) = X at *
  generalize wordR (madeR m0 m1 m2 m3 m4) = Y at *
  generalize wordR (madeR m0 n1 n2 n3 n4) = Z at *
  generalize madeR n0 n1 n2 n3 n4 = A at *
  generalize madeR m0 m1 m2 m3 m4 = B at *
  generalize madeR m0 n1 n2 n3 n4 = C at *
  have GA := Lib.hid gA
  have GB := Lib.hid gB
  have GC := Lib.hid gC
  have EA := Lib.hid eA
  have EB := Lib.hid eB
  have EC := Lib.hid eC
  have XY := Lib.hid xy
  have XZ := Lib.hid xz
  have HK := Lib.hid hk
  clear gA gB gC eA eB eC xy xz vA vB vC hk hA hB hC
  have heq := eql27
  go_enter Try.func11, Try.ntmps11
  go_wp2_with fail
  refine (sanity_any _).mono ?_
  rintro e w1 ⟨rfl, hb1⟩
  obtain ⟨hc1, hf1⟩ := bcell hb1
  have hy := hb1.size
  simp at hy
  have hy1 : w.heap.size + 1 < w1.heap.size := by omega
  have hy0 : w.heap.size < w1.heap.size := by omega
  go_wp2_with fail
  refine (GA.out _).mono ?_
  rintro e w2 ⟨rfl, hb2⟩
  obtain ⟨hc2, hf2⟩ := bcell hb2
  have hz := hb2.size
  have hz1 : w.heap.size + 1 < w2.heap.size := by omega
  have hz0 : w.heap.size < w2.heap.size := by omega
  go_wp2_with fail
  refine (mod_any _ _ (by omega) (by omega) _).mono ?_
  rintro e w2' ⟨rfl, rfl⟩
  rw [HK.out]
  go_wp2_with fail
  refine (mod_any _ _ (by omega) (by omega) _).mono ?_
  rintro e w2' ⟨rfl, rfl⟩
  rw [HK.out]
  go_wp2_with fail
  refine (EA.out _).mono ?_
  rintro e w3 ⟨rfl, hb3⟩
  have rM : w3.rangeAt (w.heap.size + 1) 0 [.int .i64 m0, .int .i64 m1, .int .i64 m2, .int .i64 m3, .int .i64 m4] := range_keep hb3 (World.rangeAt_alloc (World.rangeAt_alloc (range_keep hb2 (range_keep hb1 (range_new _ #[.int .i64 m0, .int .i64 m1, .int .i64 m2, .int .i64 m3, .int .i64 m4] _ _ (by simp)))) _) _)
  have rA : w3.rangeAt w2.heap.size 0 [.int .i64 A.op, .int .i64 A.d, .int .i64 A.a, .int .i64 A.b, .int .u32 A.imm] := range_keep hb3 (World.rangeAt_alloc (range_new _ #[.int .i64 A.op, .int .i64 A.d, .int .i64 A.a, .int .i64 A.b, .int .u32 A.imm] _ _ rfl) _)
  have rL : w3.rangeAt (w2.heap.size + 1) 0 [.int .i64 m0, .int .i64 n1, .int .i64 n2, .int .i64 n3, .int .i64 n4] := range_keep hb3 (range_new _ #[.int .i64 m0, .int .i64 n1, .int .i64 n2, .int .i64 n3, .int .i64 n4] _ _ (by simp))
  have hb : Below w.heap.size w w3 := (by repeat' (first | with_reducible exact Below.refl _ _ | with_reducible refine below_alloc ?_ _ | with_reducible refine below_drew ?_ | with_reducible refine below_drewN ?_ _ | with_reducible refine below_set ?_ (by first | exact Nat.le_refl _ | (simp <;> omega)) _ | with_reducible refine below_call ?_ (by assumption)))
  clear hb1 hb2 hb3 hc1 hc2 hf1 hf2
  obtain ⟨c0, c1, c2, c3, c4⟩ := range5 rM
  go_wp2_with fail
  refine (GB.out _).mono ?_
  rintro e w4 ⟨rfl, hb4⟩
  go_wp2_with fail
  refine (EB.out _).mono ?_
  rintro e w5 ⟨rfl, hb5⟩
  clear c0 c1 c2 c3 c4
  obtain ⟨c0, c1, c2, c3, c4⟩ := range5 (range_keep hb5 (range_keep hb4 rL))
  go_wp2_with fail
  refine (GC.out _).mono ?_
  rintro e w6 ⟨rfl, hb6⟩
  go_wp2_with fail
  refine (EC.out _).mono ?_
  rintro e w7 ⟨rfl, hb7⟩
  have h37 : Below w3.heap.size w3 w7 := (by repeat' (first | with_reducible exact Below.refl _ _ | with_reducible refine below_alloc ?_ _ | with_reducible refine below_drew ?_ | with_reducible refine below_drewN ?_ _ | with_reducible refine below_set ?_ (by first | exact Nat.le_refl _ | (simp <;> omega)) _ | with_reducible refine below_call ?_ (by assumption)))
  have hb0 := below_call hb h37
  clear c0 c1 c2 c3 c4 hb4 hb5 hb6 hb7 hb
  obtain ⟨c0, c1, c2, c3, c4⟩ := range5 (range_keep h37 rM)
  obtain ⟨d0, d1, d2, d3, d4⟩ := range5 (range_keep h37 rL)
  obtain ⟨e0, e1, e2, e3, e4⟩ := range5 (range_keep h37 rA)
  clear h37 rM rL rA
  have hxy := XY.out
  have hxz := XZ.out
  go_upto_region 8 with (fail)
  go_region_held3 (fun w' => w'.cell? ⟨w2.heap.size, 0, none⟩ = some (.int .i64 A.op) ∧ w'.cell? ⟨w2.heap.size, 1, none⟩ = some (.int .i64 A.d) ∧ w'.cell? ⟨w2.heap.size, 2, none⟩ = some (.int .i64 A.a) ∧ w'.cell? ⟨w2.heap.size, 3, none⟩ = some (.int .i64 A.b) ∧ w'.cell? ⟨w2.heap.size, 4, none⟩ = some (.int .u32 A.imm) ∧ w'.cell? ⟨w.heap.size + 1, 0, none⟩ = some (.int .i64 m0) ∧ w'.cell? ⟨w.heap.size + 1, 1, none⟩ = some (.int .i64 m1) ∧ w'.cell? ⟨w.heap.size + 1, 2, none⟩ = some (.int .i64 m2) ∧ w'.cell? ⟨w.heap.size + 1, 3, none⟩ = some (.int .i64 m3) ∧ w'.cell? ⟨w.heap.size + 1, 4, none⟩ = some (.int .i64 m4) ∧ w'.cell? ⟨w2.heap.size + 1, 0, none⟩ = some (.int .i64 m0) ∧ w'.cell? ⟨w2.heap.size + 1, 1, none⟩ = some (.int .i64 n1) ∧ w'.cell? ⟨w2.heap.size + 1, 2, none⟩ = some (.int .i64 n2) ∧ w'.cell? ⟨w2.heap.size + 1, 3, none⟩ = some (.int .i64 n3) ∧ w'.cell? ⟨w2.heap.size + 1, 4, none⟩ = some (.int .i64 n4)) (first | (go_split_ands; (repeat' apply And.intro) <;> (first | with_reducible assumption | (with_reducible (apply cell_keep <;> assumption)) | (simp [go_sem, *]; done))))
    (first | (go_at_call 21; (with_reducible refine (GB.out _).mono ?_); rintro e v1 ⟨rfl, hv1⟩) | (go_at_call 21; (with_reducible refine (GC.out _).mono ?_); rintro e v2 ⟨rfl, hv2⟩))
  have hbz : Below w.heap.size w v2 := (by repeat' (first | with_reducible exact Below.refl _ _ | with_reducible refine below_alloc ?_ _ | with_reducible refine below_drew ?_ | with_reducible refine below_drewN ?_ _ | with_reducible refine below_set ?_ (by first | exact Nat.le_refl _ | (simp <;> omega)) _ | with_reducible refine below_call ?_ (by assumption)))
  clear hxy hxz heq
  go_wp2
  go_ret
  exact ⟨rfl, hbz⟩

set_option maxHeartbeats 2000000 in
theorem once_1 (n0 n1 n2 n3 n4 m0 m1 m2 m3 m4 k : Int) (hk : k % 5 = 1) (w : World) :
    Calls Try.prog 11 #[.agg #[.int .i64 n0, .int .i64 n1, .int .i64 n2, .int .i64 n3, .int .i64 n4], .agg #[.int .i64 m0, .int .i64 m1, .int .i64 m2, .int .i64 m3, .int .i64 m4], .int .i64 k] w fun e w' => e = .returned (.bool true) ∧ Below w.heap.size w w' := by
  have hA := madeR_imm n0 n1 n2 n3 n4
  have hB := madeR_imm m0 m1 m2 m3 m4
  have hC := madeR_imm n0 m1 n2 n3 n4
  have vA := made_valid n0 n1 n2 n3 n4
  have vB := made_valid m0 m1 m2 m3 m4
  have vC := made_valid n0 m1 n2 n3 n4
  have gA := made_any n0 n1 n2 n3 n4
  have gB := made_any m0 m1 m2 m3 m4
  have gC := made_any n0 m1 n2 n3 n4
  have xy := word_inj _ _ vA vB hA.1 hA.2 hB.1 hB.2
  have xz := word_inj _ _ vA vC hA.1 hA.2 hC.1 hC.2
  have eA := fun w => enc_any (madeR n0 n1 n2 n3 n4) w hA.1 hA.2
  have eB := fun w => enc_any (madeR m0 m1 m2 m3 m4) w hB.1 hB.2
  have eC := fun w => enc_any (madeR n0 m1 n2 n3 n4) w hC.1 hC.2
  rw [encE_of vA, encW_of vA] at eA
  rw [encE_of vB, encW_of vB] at eB
  rw [encE_of vC, encW_of vC] at eC
  generalize wordR (madeR n0 n1 n2 n3 n4) = X at *
  generalize wordR (madeR m0 m1 m2 m3 m4) = Y at *
  generalize wordR (madeR n0 m1 n2 n3 n4) = Z at *
  generalize madeR n0 n1 n2 n3 n4 = A at *
  generalize madeR m0 m1 m2 m3 m4 = B at *
  generalize madeR n0 m1 n2 n3 n4 = C at *
  have GA := Lib.hid gA
  have GB := Lib.hid gB
  have GC := Lib.hid gC
  have EA := Lib.hid eA
  have EB := Lib.hid eB
  have EC := Lib.hid eC
  have XY := Lib.hid xy
  have XZ := Lib.hid xz
  have HK := Lib.hid hk
  clear gA gB gC eA eB eC xy xz vA vB vC hk hA hB hC
  have heq := eql27
  go_enter Try.func11, Try.ntmps11
  go_wp2_with fail
  refine (sanity_any _).mono ?_
  rintro e w1 ⟨rfl, hb1⟩
  obtain ⟨hc1, hf1⟩ := bcell hb1
  have hy := hb1.size
  simp at hy
  have hy1 : w.heap.size + 1 < w1.heap.size := by omega
  have hy0 : w.heap.size < w1.heap.size := by omega
  go_wp2_with fail
  refine (GA.out _).mono ?_
  rintro e w2 ⟨rfl, hb2⟩
  obtain ⟨hc2, hf2⟩ := bcell hb2
  have hz := hb2.size
  have hz1 : w.heap.size + 1 < w2.heap.size := by omega
  have hz0 : w.heap.size < w2.heap.size := by omega
  go_wp2_with fail
  refine (mod_any _ _ (by omega) (by omega) _).mono ?_
  rintro e w2' ⟨rfl, rfl⟩
  rw [HK.out]
  go_wp2_with fail
  refine (mod_any _ _ (by omega) (by omega) _).mono ?_
  rintro e w2' ⟨rfl, rfl⟩
  rw [HK.out]
  go_wp2_with fail
  refine (EA.out _).mono ?_
  rintro e w3 ⟨rfl, hb3⟩
  have rM : w3.rangeAt (w.heap.size + 1) 0 [.int .i64 m0, .int .i64 m1, .int .i64 m2, .int .i64 m3, .int .i64 m4] := range_keep hb3 (World.rangeAt_alloc (World.rangeAt_alloc (range_keep hb2 (range_keep hb1 (range_new _ #[.int .i64 m0, .int .i64 m1, .int .i64 m2, .int .i64 m3, .int .i64 m4] _ _ (by simp)))) _) _)
  have rA : w3.rangeAt w2.heap.size 0 [.int .i64 A.op, .int .i64 A.d, .int .i64 A.a, .int .i64 A.b, .int .u32 A.imm] := range_keep hb3 (World.rangeAt_alloc (range_new _ #[.int .i64 A.op, .int .i64 A.d, .int .i64 A.a, .int .i64 A.b, .int .u32 A.imm] _ _ rfl) _)
  have rL : w3.rangeAt (w2.heap.size + 1) 0 [.int .i64 n0, .int .i64 m1, .int .i64 n2, .int .i64 n3, .int .i64 n4] := range_keep hb3 (range_new _ #[.int .i64 n0, .int .i64 m1, .int .i64 n2, .int .i64 n3, .int .i64 n4] _ _ (by simp))
  have hb : Below w.heap.size w w3 := (by repeat' (first | with_reducible exact Below.refl _ _ | with_reducible refine below_alloc ?_ _ | with_reducible refine below_drew ?_ | with_reducible refine below_drewN ?_ _ | with_reducible refine below_set ?_ (by first | exact Nat.le_refl _ | (simp <;> omega)) _ | with_reducible refine below_call ?_ (by assumption)))
  clear hb1 hb2 hb3 hc1 hc2 hf1 hf2
  obtain ⟨c0, c1, c2, c3, c4⟩ := range5 rM
  go_wp2_with fail
  refine (GB.out _).mono ?_
  rintro e w4 ⟨rfl, hb4⟩
  go_wp2_with fail
  refine (EB.out _).mono ?_
  rintro e w5 ⟨rfl, hb5⟩
  clear c0 c1 c2 c3 c4
  obtain ⟨c0, c1, c2, c3, c4⟩ := range5 (range_keep hb5 (range_keep hb4 rL))
  go_wp2_with fail
  refine (GC.out _).mono ?_
  rintro e w6 ⟨rfl, hb6⟩
  go_wp2_with fail
  refine (EC.out _).mono ?_
  rintro e w7 ⟨rfl, hb7⟩
  have h37 : Below w3.heap.size w3 w7 := (by repeat' (first | with_reducible exact Below.refl _ _ | with_reducible refine below_alloc ?_ _ | with_reducible refine below_drew ?_ | with_reducible refine below_drewN ?_ _ | with_reducible refine below_set ?_ (by first | exact Nat.le_refl _ | (simp <;> omega)) _ | with_reducible refine below_call ?_ (by assumption)))
  have hb0 := below_call hb h37
  clear c0 c1 c2 c3 c4 hb4 hb5 hb6 hb7 hb
  obtain ⟨c0, c1, c2, c3, c4⟩ := range5 (range_keep h37 rM)
  obtain ⟨d0, d1, d2, d3, d4⟩ := range5 (range_keep h37 rL)
  obtain ⟨e0, e1, e2, e3, e4⟩ := range5 (range_keep h37 rA)
  clear h37 rM rL rA
  have hxy := XY.out
  have hxz := XZ.out
  go_upto_region 8 with (fail)
  go_region_held3 (fun w' => w'.cell? ⟨w2.heap.size, 0, none⟩ = some (.int .i64 A.op) ∧ w'.cell? ⟨w2.heap.size, 1, none⟩ = some (.int .i64 A.d) ∧ w'.cell? ⟨w2.heap.size, 2, none⟩ = some (.int .i64 A.a) ∧ w'.cell? ⟨w2.heap.size, 3, none⟩ = some (.int .i64 A.b) ∧ w'.cell? ⟨w2.heap.size, 4, none⟩ = some (.int .u32 A.imm) ∧ w'.cell? ⟨w.heap.size + 1, 0, none⟩ = some (.int .i64 m0) ∧ w'.cell? ⟨w.heap.size + 1, 1, none⟩ = some (.int .i64 m1) ∧ w'.cell? ⟨w.heap.size + 1, 2, none⟩ = some (.int .i64 m2) ∧ w'.cell? ⟨w.heap.size + 1, 3, none⟩ = some (.int .i64 m3) ∧ w'.cell? ⟨w.heap.size + 1, 4, none⟩ = some (.int .i64 m4) ∧ w'.cell? ⟨w2.heap.size + 1, 0, none⟩ = some (.int .i64 n0) ∧ w'.cell? ⟨w2.heap.size + 1, 1, none⟩ = some (.int .i64 m1) ∧ w'.cell? ⟨w2.heap.size + 1, 2, none⟩ = some (.int .i64 n2) ∧ w'.cell? ⟨w2.heap.size + 1, 3, none⟩ = some (.int .i64 n3) ∧ w'.cell? ⟨w2.heap.size + 1, 4, none⟩ = some (.int .i64 n4)) (first | (go_split_ands; (repeat' apply And.intro) <;> (first | with_reducible assumption | (with_reducible (apply cell_keep <;> assumption)) | (simp [go_sem, *]; done))))
    (first | (go_at_call 21; (with_reducible refine (GB.out _).mono ?_); rintro e v1 ⟨rfl, hv1⟩) | (go_at_call 21; (with_reducible refine (GC.out _).mono ?_); rintro e v2 ⟨rfl, hv2⟩))
  have hbz : Below w.heap.size w v2 := (by repeat' (first | with_reducible exact Below.refl _ _ | with_reducible refine below_alloc ?_ _ | with_reducible refine below_drew ?_ | with_reducible refine below_drewN ?_ _ | with_reducible refine below_set ?_ (by first | exact Nat.le_refl _ | (simp <;> omega)) _ | with_reducible refine below_call ?_ (by assumption)))
  clear hxy hxz heq
  go_wp2
  go_ret
  exact ⟨rfl, hbz⟩

set_option maxHeartbeats 2000000 in
theorem once_2 (n0 n1 n2 n3 n4 m0 m1 m2 m3 m4 k : Int) (hk : k % 5 = 2) (w : World) :
    Calls Try.prog 11 #[.agg #[.int .i64 n0, .int .i64 n1, .int .i64 n2, .int .i64 n3, .int .i64 n4], .agg #[.int .i64 m0, .int .i64 m1, .int .i64 m2, .int .i64 m3, .int .i64 m4], .int .i64 k] w fun e w' => e = .returned (.bool true) ∧ Below w.heap.size w w' := by
  have hA := madeR_imm n0 n1 n2 n3 n4
  have hB := madeR_imm m0 m1 m2 m3 m4
  have hC := madeR_imm n0 n1 m2 n3 n4
  have vA := made_valid n0 n1 n2 n3 n4
  have vB := made_valid m0 m1 m2 m3 m4
  have vC := made_valid n0 n1 m2 n3 n4
  have gA := made_any n0 n1 n2 n3 n4
  have gB := made_any m0 m1 m2 m3 m4
  have gC := made_any n0 n1 m2 n3 n4
  have xy := word_inj _ _ vA vB hA.1 hA.2 hB.1 hB.2
  have xz := word_inj _ _ vA vC hA.1 hA.2 hC.1 hC.2
  have eA := fun w => enc_any (madeR n0 n1 n2 n3 n4) w hA.1 hA.2
  have eB := fun w => enc_any (madeR m0 m1 m2 m3 m4) w hB.1 hB.2
  have eC := fun w => enc_any (madeR n0 n1 m2 n3 n4) w hC.1 hC.2
  rw [encE_of vA, encW_of vA] at eA
  rw [encE_of vB, encW_of vB] at eB
  rw [encE_of vC, encW_of vC] at eC
  generalize wordR (madeR n0 n1 n2 n3 n4) = X at *
  generalize wordR (madeR m0 m1 m2 m3 m4) = Y at *
  generalize wordR (madeR n0 n1 m2 n3 n4) = Z at *
  generalize madeR n0 n1 n2 n3 n4 = A at *
  generalize madeR m0 m1 m2 m3 m4 = B at *
  generalize madeR n0 n1 m2 n3 n4 = C at *
  have GA := Lib.hid gA
  have GB := Lib.hid gB
  have GC := Lib.hid gC
  have EA := Lib.hid eA
  have EB := Lib.hid eB
  have EC := Lib.hid eC
  have XY := Lib.hid xy
  have XZ := Lib.hid xz
  have HK := Lib.hid hk
  clear gA gB gC eA eB eC xy xz vA vB vC hk hA hB hC
  have heq := eql27
  go_enter Try.func11, Try.ntmps11
  go_wp2_with fail
  refine (sanity_any _).mono ?_
  rintro e w1 ⟨rfl, hb1⟩
  obtain ⟨hc1, hf1⟩ := bcell hb1
  have hy := hb1.size
  simp at hy
  have hy1 : w.heap.size + 1 < w1.heap.size := by omega
  have hy0 : w.heap.size < w1.heap.size := by omega
  go_wp2_with fail
  refine (GA.out _).mono ?_
  rintro e w2 ⟨rfl, hb2⟩
  obtain ⟨hc2, hf2⟩ := bcell hb2
  have hz := hb2.size
  have hz1 : w.heap.size + 1 < w2.heap.size := by omega
  have hz0 : w.heap.size < w2.heap.size := by omega
  go_wp2_with fail
  refine (mod_any _ _ (by omega) (by omega) _).mono ?_
  rintro e w2' ⟨rfl, rfl⟩
  rw [HK.out]
  go_wp2_with fail
  refine (mod_any _ _ (by omega) (by omega) _).mono ?_
  rintro e w2' ⟨rfl, rfl⟩
  rw [HK.out]
  go_wp2_with fail
  refine (EA.out _).mono ?_
  rintro e w3 ⟨rfl, hb3⟩
  have rM : w3.rangeAt (w.heap.size + 1) 0 [.int .i64 m0, .int .i64 m1, .int .i64 m2, .int .i64 m3, .int .i64 m4] := range_keep hb3 (World.rangeAt_alloc (World.rangeAt_alloc (range_keep hb2 (range_keep hb1 (range_new _ #[.int .i64 m0, .int .i64 m1, .int .i64 m2, .int .i64 m3, .int .i64 m4] _ _ (by simp)))) _) _)
  have rA : w3.rangeAt w2.heap.size 0 [.int .i64 A.op, .int .i64 A.d, .int .i64 A.a, .int .i64 A.b, .int .u32 A.imm] := range_keep hb3 (World.rangeAt_alloc (range_new _ #[.int .i64 A.op, .int .i64 A.d, .int .i64 A.a, .int .i64 A.b, .int .u32 A.imm] _ _ rfl) _)
  have rL : w3.rangeAt (w2.heap.size + 1) 0 [.int .i64 n0, .int .i64 n1, .int .i64 m2, .int .i64 n3, .int .i64 n4] := range_keep hb3 (range_new _ #[.int .i64 n0, .int .i64 n1, .int .i64 m2, .int .i64 n3, .int .i64 n4] _ _ (by simp))
  have hb : Below w.heap.size w w3 := (by repeat' (first | with_reducible exact Below.refl _ _ | with_reducible refine below_alloc ?_ _ | with_reducible refine below_drew ?_ | with_reducible refine below_drewN ?_ _ | with_reducible refine below_set ?_ (by first | exact Nat.le_refl _ | (simp <;> omega)) _ | with_reducible refine below_call ?_ (by assumption)))
  clear hb1 hb2 hb3 hc1 hc2 hf1 hf2
  obtain ⟨c0, c1, c2, c3, c4⟩ := range5 rM
  go_wp2_with fail
  refine (GB.out _).mono ?_
  rintro e w4 ⟨rfl, hb4⟩
  go_wp2_with fail
  refine (EB.out _).mono ?_
  rintro e w5 ⟨rfl, hb5⟩
  clear c0 c1 c2 c3 c4
  obtain ⟨c0, c1, c2, c3, c4⟩ := range5 (range_keep hb5 (range_keep hb4 rL))
  go_wp2_with fail
  refine (GC.out _).mono ?_
  rintro e w6 ⟨rfl, hb6⟩
  go_wp2_with fail
  refine (EC.out _).mono ?_
  rintro e w7 ⟨rfl, hb7⟩
  have h37 : Below w3.heap.size w3 w7 := (by repeat' (first | with_reducible exact Below.refl _ _ | with_reducible refine below_alloc ?_ _ | with_reducible refine below_drew ?_ | with_reducible refine below_drewN ?_ _ | with_reducible refine below_set ?_ (by first | exact Nat.le_refl _ | (simp <;> omega)) _ | with_reducible refine below_call ?_ (by assumption)))
  have hb0 := below_call hb h37
  clear c0 c1 c2 c3 c4 hb4 hb5 hb6 hb7 hb
  obtain ⟨c0, c1, c2, c3, c4⟩ := range5 (range_keep h37 rM)
  obtain ⟨d0, d1, d2, d3, d4⟩ := range5 (range_keep h37 rL)
  obtain ⟨e0, e1, e2, e3, e4⟩ := range5 (range_keep h37 rA)
  clear h37 rM rL rA
  have hxy := XY.out
  have hxz := XZ.out
  go_upto_region 8 with (fail)
  go_region_held3 (fun w' => w'.cell? ⟨w2.heap.size, 0, none⟩ = some (.int .i64 A.op) ∧ w'.cell? ⟨w2.heap.size, 1, none⟩ = some (.int .i64 A.d) ∧ w'.cell? ⟨w2.heap.size, 2, none⟩ = some (.int .i64 A.a) ∧ w'.cell? ⟨w2.heap.size, 3, none⟩ = some (.int .i64 A.b) ∧ w'.cell? ⟨w2.heap.size, 4, none⟩ = some (.int .u32 A.imm) ∧ w'.cell? ⟨w.heap.size + 1, 0, none⟩ = some (.int .i64 m0) ∧ w'.cell? ⟨w.heap.size + 1, 1, none⟩ = some (.int .i64 m1) ∧ w'.cell? ⟨w.heap.size + 1, 2, none⟩ = some (.int .i64 m2) ∧ w'.cell? ⟨w.heap.size + 1, 3, none⟩ = some (.int .i64 m3) ∧ w'.cell? ⟨w.heap.size + 1, 4, none⟩ = some (.int .i64 m4) ∧ w'.cell? ⟨w2.heap.size + 1, 0, none⟩ = some (.int .i64 n0) ∧ w'.cell? ⟨w2.heap.size + 1, 1, none⟩ = some (.int .i64 n1) ∧ w'.cell? ⟨w2.heap.size + 1, 2, none⟩ = some (.int .i64 m2) ∧ w'.cell? ⟨w2.heap.size + 1, 3, none⟩ = some (.int .i64 n3) ∧ w'.cell? ⟨w2.heap.size + 1, 4, none⟩ = some (.int .i64 n4)) (first | (go_split_ands; (repeat' apply And.intro) <;> (first | with_reducible assumption | (with_reducible (apply cell_keep <;> assumption)) | (simp [go_sem, *]; done))))
    (first | (go_at_call 21; (with_reducible refine (GB.out _).mono ?_); rintro e v1 ⟨rfl, hv1⟩) | (go_at_call 21; (with_reducible refine (GC.out _).mono ?_); rintro e v2 ⟨rfl, hv2⟩))
  have hbz : Below w.heap.size w v2 := (by repeat' (first | with_reducible exact Below.refl _ _ | with_reducible refine below_alloc ?_ _ | with_reducible refine below_drew ?_ | with_reducible refine below_drewN ?_ _ | with_reducible refine below_set ?_ (by first | exact Nat.le_refl _ | (simp <;> omega)) _ | with_reducible refine below_call ?_ (by assumption)))
  clear hxy hxz heq
  go_wp2
  go_ret
  exact ⟨rfl, hbz⟩

set_option maxHeartbeats 2000000 in
theorem once_3 (n0 n1 n2 n3 n4 m0 m1 m2 m3 m4 k : Int) (hk : k % 5 = 3) (w : World) :
    Calls Try.prog 11 #[.agg #[.int .i64 n0, .int .i64 n1, .int .i64 n2, .int .i64 n3, .int .i64 n4], .agg #[.int .i64 m0, .int .i64 m1, .int .i64 m2, .int .i64 m3, .int .i64 m4], .int .i64 k] w fun e w' => e = .returned (.bool true) ∧ Below w.heap.size w w' := by
  have hA := madeR_imm n0 n1 n2 n3 n4
  have hB := madeR_imm m0 m1 m2 m3 m4
  have hC := madeR_imm n0 n1 n2 m3 n4
  have vA := made_valid n0 n1 n2 n3 n4
  have vB := made_valid m0 m1 m2 m3 m4
  have vC := made_valid n0 n1 n2 m3 n4
  have gA := made_any n0 n1 n2 n3 n4
  have gB := made_any m0 m1 m2 m3 m4
  have gC := made_any n0 n1 n2 m3 n4
  have xy := word_inj _ _ vA vB hA.1 hA.2 hB.1 hB.2
  have xz := word_inj _ _ vA vC hA.1 hA.2 hC.1 hC.2
  have eA := fun w => enc_any (madeR n0 n1 n2 n3 n4) w hA.1 hA.2
  have eB := fun w => enc_any (madeR m0 m1 m2 m3 m4) w hB.1 hB.2
  have eC := fun w => enc_any (madeR n0 n1 n2 m3 n4) w hC.1 hC.2
  rw [encE_of vA, encW_of vA] at eA
  rw [encE_of vB, encW_of vB] at eB
  rw [encE_of vC, encW_of vC] at eC
  generalize wordR (madeR n0 n1 n2 n3 n4) = X at *
  generalize wordR (madeR m0 m1 m2 m3 m4) = Y at *
  generalize wordR (madeR n0 n1 n2 m3 n4) = Z at *
  generalize madeR n0 n1 n2 n3 n4 = A at *
  generalize madeR m0 m1 m2 m3 m4 = B at *
  generalize madeR n0 n1 n2 m3 n4 = C at *
  have GA := Lib.hid gA
  have GB := Lib.hid gB
  have GC := Lib.hid gC
  have EA := Lib.hid eA
  have EB := Lib.hid eB
  have EC := Lib.hid eC
  have XY := Lib.hid xy
  have XZ := Lib.hid xz
  have HK := Lib.hid hk
  clear gA gB gC eA eB eC xy xz vA vB vC hk hA hB hC
  have heq := eql27
  go_enter Try.func11, Try.ntmps11
  go_wp2_with fail
  refine (sanity_any _).mono ?_
  rintro e w1 ⟨rfl, hb1⟩
  obtain ⟨hc1, hf1⟩ := bcell hb1
  have hy := hb1.size
  simp at hy
  have hy1 : w.heap.size + 1 < w1.heap.size := by omega
  have hy0 : w.heap.size < w1.heap.size := by omega
  go_wp2_with fail
  refine (GA.out _).mono ?_
  rintro e w2 ⟨rfl, hb2⟩
  obtain ⟨hc2, hf2⟩ := bcell hb2
  have hz := hb2.size
  have hz1 : w.heap.size + 1 < w2.heap.size := by omega
  have hz0 : w.heap.size < w2.heap.size := by omega
  go_wp2_with fail
  refine (mod_any _ _ (by omega) (by omega) _).mono ?_
  rintro e w2' ⟨rfl, rfl⟩
  rw [HK.out]
  go_wp2_with fail
  refine (mod_any _ _ (by omega) (by omega) _).mono ?_
  rintro e w2' ⟨rfl, rfl⟩
  rw [HK.out]
  go_wp2_with fail
  refine (EA.out _).mono ?_
  rintro e w3 ⟨rfl, hb3⟩
  have rM : w3.rangeAt (w.heap.size + 1) 0 [.int .i64 m0, .int .i64 m1, .int .i64 m2, .int .i64 m3, .int .i64 m4] := range_keep hb3 (World.rangeAt_alloc (World.rangeAt_alloc (range_keep hb2 (range_keep hb1 (range_new _ #[.int .i64 m0, .int .i64 m1, .int .i64 m2, .int .i64 m3, .int .i64 m4] _ _ (by simp)))) _) _)
  have rA : w3.rangeAt w2.heap.size 0 [.int .i64 A.op, .int .i64 A.d, .int .i64 A.a, .int .i64 A.b, .int .u32 A.imm] := range_keep hb3 (World.rangeAt_alloc (range_new _ #[.int .i64 A.op, .int .i64 A.d, .int .i64 A.a, .int .i64 A.b, .int .u32 A.imm] _ _ rfl) _)
  have rL : w3.rangeAt (w2.heap.size + 1) 0 [.int .i64 n0, .int .i64 n1, .int .i64 n2, .int .i64 m3, .int .i64 n4] := range_keep hb3 (range_new _ #[.int .i64 n0, .int .i64 n1, .int .i64 n2, .int .i64 m3, .int .i64 n4] _ _ (by simp))
  have hb : Below w.heap.size w w3 := (by repeat' (first | with_reducible exact Below.refl _ _ | with_reducible refine below_alloc ?_ _ | with_reducible refine below_drew ?_ | with_reducible refine below_drewN ?_ _ | with_reducible refine below_set ?_ (by first | exact Nat.le_refl _ | (simp <;> omega)) _ | with_reducible refine below_call ?_ (by assumption)))
  clear hb1 hb2 hb3 hc1 hc2 hf1 hf2
  obtain ⟨c0, c1, c2, c3, c4⟩ := range5 rM
  go_wp2_with fail
  refine (GB.out _).mono ?_
  rintro e w4 ⟨rfl, hb4⟩
  go_wp2_with fail
  refine (EB.out _).mono ?_
  rintro e w5 ⟨rfl, hb5⟩
  clear c0 c1 c2 c3 c4
  obtain ⟨c0, c1, c2, c3, c4⟩ := range5 (range_keep hb5 (range_keep hb4 rL))
  go_wp2_with fail
  refine (GC.out _).mono ?_
  rintro e w6 ⟨rfl, hb6⟩
  go_wp2_with fail
  refine (EC.out _).mono ?_
  rintro e w7 ⟨rfl, hb7⟩
  have h37 : Below w3.heap.size w3 w7 := (by repeat' (first | with_reducible exact Below.refl _ _ | with_reducible refine below_alloc ?_ _ | with_reducible refine below_drew ?_ | with_reducible refine below_drewN ?_ _ | with_reducible refine below_set ?_ (by first | exact Nat.le_refl _ | (simp <;> omega)) _ | with_reducible refine below_call ?_ (by assumption)))
  have hb0 := below_call hb h37
  clear c0 c1 c2 c3 c4 hb4 hb5 hb6 hb7 hb
  obtain ⟨c0, c1, c2, c3, c4⟩ := range5 (range_keep h37 rM)
  obtain ⟨d0, d1, d2, d3, d4⟩ := range5 (range_keep h37 rL)
  obtain ⟨e0, e1, e2, e3, e4⟩ := range5 (range_keep h37 rA)
  clear h37 rM rL rA
  have hxy := XY.out
  have hxz := XZ.out
  go_upto_region 8 with (fail)
  go_region_held3 (fun w' => w'.cell? ⟨w2.heap.size, 0, none⟩ = some (.int .i64 A.op) ∧ w'.cell? ⟨w2.heap.size, 1, none⟩ = some (.int .i64 A.d) ∧ w'.cell? ⟨w2.heap.size, 2, none⟩ = some (.int .i64 A.a) ∧ w'.cell? ⟨w2.heap.size, 3, none⟩ = some (.int .i64 A.b) ∧ w'.cell? ⟨w2.heap.size, 4, none⟩ = some (.int .u32 A.imm) ∧ w'.cell? ⟨w.heap.size + 1, 0, none⟩ = some (.int .i64 m0) ∧ w'.cell? ⟨w.heap.size + 1, 1, none⟩ = some (.int .i64 m1) ∧ w'.cell? ⟨w.heap.size + 1, 2, none⟩ = some (.int .i64 m2) ∧ w'.cell? ⟨w.heap.size + 1, 3, none⟩ = some (.int .i64 m3) ∧ w'.cell? ⟨w.heap.size + 1, 4, none⟩ = some (.int .i64 m4) ∧ w'.cell? ⟨w2.heap.size + 1, 0, none⟩ = some (.int .i64 n0) ∧ w'.cell? ⟨w2.heap.size + 1, 1, none⟩ = some (.int .i64 n1) ∧ w'.cell? ⟨w2.heap.size + 1, 2, none⟩ = some (.int .i64 n2) ∧ w'.cell? ⟨w2.heap.size + 1, 3, none⟩ = some (.int .i64 m3) ∧ w'.cell? ⟨w2.heap.size + 1, 4, none⟩ = some (.int .i64 n4)) (first | (go_split_ands; (repeat' apply And.intro) <;> (first | with_reducible assumption | (with_reducible (apply cell_keep <;> assumption)) | (simp [go_sem, *]; done))))
    (first | (go_at_call 21; (with_reducible refine (GB.out _).mono ?_); rintro e v1 ⟨rfl, hv1⟩) | (go_at_call 21; (with_reducible refine (GC.out _).mono ?_); rintro e v2 ⟨rfl, hv2⟩))
  have hbz : Below w.heap.size w v2 := (by repeat' (first | with_reducible exact Below.refl _ _ | with_reducible refine below_alloc ?_ _ | with_reducible refine below_drew ?_ | with_reducible refine below_drewN ?_ _ | with_reducible refine below_set ?_ (by first | exact Nat.le_refl _ | (simp <;> omega)) _ | with_reducible refine below_call ?_ (by assumption)))
  clear hxy hxz heq
  go_wp2
  go_ret
  exact ⟨rfl, hbz⟩

set_option maxHeartbeats 2000000 in
theorem once_4 (n0 n1 n2 n3 n4 m0 m1 m2 m3 m4 k : Int) (hk : k % 5 = 4) (w : World) :
    Calls Try.prog 11 #[.agg #[.int .i64 n0, .int .i64 n1, .int .i64 n2, .int .i64 n3, .int .i64 n4], .agg #[.int .i64 m0, .int .i64 m1, .int .i64 m2, .int .i64 m3, .int .i64 m4], .int .i64 k] w fun e w' => e = .returned (.bool true) ∧ Below w.heap.size w w' := by
  have hA := madeR_imm n0 n1 n2 n3 n4
  have hB := madeR_imm m0 m1 m2 m3 m4
  have hC := madeR_imm n0 n1 n2 n3 m4
  have vA := made_valid n0 n1 n2 n3 n4
  have vB := made_valid m0 m1 m2 m3 m4
  have vC := made_valid n0 n1 n2 n3 m4
  have gA := made_any n0 n1 n2 n3 n4
  have gB := made_any m0 m1 m2 m3 m4
  have gC := made_any n0 n1 n2 n3 m4
  have xy := word_inj _ _ vA vB hA.1 hA.2 hB.1 hB.2
  have xz := word_inj _ _ vA vC hA.1 hA.2 hC.1 hC.2
  have eA := fun w => enc_any (madeR n0 n1 n2 n3 n4) w hA.1 hA.2
  have eB := fun w => enc_any (madeR m0 m1 m2 m3 m4) w hB.1 hB.2
  have eC := fun w => enc_any (madeR n0 n1 n2 n3 m4) w hC.1 hC.2
  rw [encE_of vA, encW_of vA] at eA
  rw [encE_of vB, encW_of vB] at eB
  rw [encE_of vC, encW_of vC] at eC
  generalize wordR (madeR n0 n1 n2 n3 n4) = X at *
  generalize wordR (madeR m0 m1 m2 m3 m4) = Y at *
  generalize wordR (madeR n0 n1 n2 n3 m4) = Z at *
  generalize madeR n0 n1 n2 n3 n4 = A at *
  generalize madeR m0 m1 m2 m3 m4 = B at *
  generalize madeR n0 n1 n2 n3 m4 = C at *
  have GA := Lib.hid gA
  have GB := Lib.hid gB
  have GC := Lib.hid gC
  have EA := Lib.hid eA
  have EB := Lib.hid eB
  have EC := Lib.hid eC
  have XY := Lib.hid xy
  have XZ := Lib.hid xz
  have HK := Lib.hid hk
  clear gA gB gC eA eB eC xy xz vA vB vC hk hA hB hC
  have heq := eql27
  go_enter Try.func11, Try.ntmps11
  go_wp2_with fail
  refine (sanity_any _).mono ?_
  rintro e w1 ⟨rfl, hb1⟩
  obtain ⟨hc1, hf1⟩ := bcell hb1
  have hy := hb1.size
  simp at hy
  have hy1 : w.heap.size + 1 < w1.heap.size := by omega
  have hy0 : w.heap.size < w1.heap.size := by omega
  go_wp2_with fail
  refine (GA.out _).mono ?_
  rintro e w2 ⟨rfl, hb2⟩
  obtain ⟨hc2, hf2⟩ := bcell hb2
  have hz := hb2.size
  have hz1 : w.heap.size + 1 < w2.heap.size := by omega
  have hz0 : w.heap.size < w2.heap.size := by omega
  go_wp2_with fail
  refine (mod_any _ _ (by omega) (by omega) _).mono ?_
  rintro e w2' ⟨rfl, rfl⟩
  rw [HK.out]
  go_wp2_with fail
  refine (mod_any _ _ (by omega) (by omega) _).mono ?_
  rintro e w2' ⟨rfl, rfl⟩
  rw [HK.out]
  go_wp2_with fail
  refine (EA.out _).mono ?_
  rintro e w3 ⟨rfl, hb3⟩
  have rM : w3.rangeAt (w.heap.size + 1) 0 [.int .i64 m0, .int .i64 m1, .int .i64 m2, .int .i64 m3, .int .i64 m4] := range_keep hb3 (World.rangeAt_alloc (World.rangeAt_alloc (range_keep hb2 (range_keep hb1 (range_new _ #[.int .i64 m0, .int .i64 m1, .int .i64 m2, .int .i64 m3, .int .i64 m4] _ _ (by simp)))) _) _)
  have rA : w3.rangeAt w2.heap.size 0 [.int .i64 A.op, .int .i64 A.d, .int .i64 A.a, .int .i64 A.b, .int .u32 A.imm] := range_keep hb3 (World.rangeAt_alloc (range_new _ #[.int .i64 A.op, .int .i64 A.d, .int .i64 A.a, .int .i64 A.b, .int .u32 A.imm] _ _ rfl) _)
  have rL : w3.rangeAt (w2.heap.size + 1) 0 [.int .i64 n0, .int .i64 n1, .int .i64 n2, .int .i64 n3, .int .i64 m4] := range_keep hb3 (range_new _ #[.int .i64 n0, .int .i64 n1, .int .i64 n2, .int .i64 n3, .int .i64 m4] _ _ (by simp))
  have hb : Below w.heap.size w w3 := (by repeat' (first | with_reducible exact Below.refl _ _ | with_reducible refine below_alloc ?_ _ | with_reducible refine below_drew ?_ | with_reducible refine below_drewN ?_ _ | with_reducible refine below_set ?_ (by first | exact Nat.le_refl _ | (simp <;> omega)) _ | with_reducible refine below_call ?_ (by assumption)))
  clear hb1 hb2 hb3 hc1 hc2 hf1 hf2
  obtain ⟨c0, c1, c2, c3, c4⟩ := range5 rM
  go_wp2_with fail
  refine (GB.out _).mono ?_
  rintro e w4 ⟨rfl, hb4⟩
  go_wp2_with fail
  refine (EB.out _).mono ?_
  rintro e w5 ⟨rfl, hb5⟩
  clear c0 c1 c2 c3 c4
  obtain ⟨c0, c1, c2, c3, c4⟩ := range5 (range_keep hb5 (range_keep hb4 rL))
  go_wp2_with fail
  refine (GC.out _).mono ?_
  rintro e w6 ⟨rfl, hb6⟩
  go_wp2_with fail
  refine (EC.out _).mono ?_
  rintro e w7 ⟨rfl, hb7⟩
  have h37 : Below w3.heap.size w3 w7 := (by repeat' (first | with_reducible exact Below.refl _ _ | with_reducible refine below_alloc ?_ _ | with_reducible refine below_drew ?_ | with_reducible refine below_drewN ?_ _ | with_reducible refine below_set ?_ (by first | exact Nat.le_refl _ | (simp <;> omega)) _ | with_reducible refine below_call ?_ (by assumption)))
  have hb0 := below_call hb h37
  clear c0 c1 c2 c3 c4 hb4 hb5 hb6 hb7 hb
  obtain ⟨c0, c1, c2, c3, c4⟩ := range5 (range_keep h37 rM)
  obtain ⟨d0, d1, d2, d3, d4⟩ := range5 (range_keep h37 rL)
  obtain ⟨e0, e1, e2, e3, e4⟩ := range5 (range_keep h37 rA)
  clear h37 rM rL rA
  have hxy := XY.out
  have hxz := XZ.out
  go_upto_region 8 with (fail)
  go_region_held3 (fun w' => w'.cell? ⟨w2.heap.size, 0, none⟩ = some (.int .i64 A.op) ∧ w'.cell? ⟨w2.heap.size, 1, none⟩ = some (.int .i64 A.d) ∧ w'.cell? ⟨w2.heap.size, 2, none⟩ = some (.int .i64 A.a) ∧ w'.cell? ⟨w2.heap.size, 3, none⟩ = some (.int .i64 A.b) ∧ w'.cell? ⟨w2.heap.size, 4, none⟩ = some (.int .u32 A.imm) ∧ w'.cell? ⟨w.heap.size + 1, 0, none⟩ = some (.int .i64 m0) ∧ w'.cell? ⟨w.heap.size + 1, 1, none⟩ = some (.int .i64 m1) ∧ w'.cell? ⟨w.heap.size + 1, 2, none⟩ = some (.int .i64 m2) ∧ w'.cell? ⟨w.heap.size + 1, 3, none⟩ = some (.int .i64 m3) ∧ w'.cell? ⟨w.heap.size + 1, 4, none⟩ = some (.int .i64 m4) ∧ w'.cell? ⟨w2.heap.size + 1, 0, none⟩ = some (.int .i64 n0) ∧ w'.cell? ⟨w2.heap.size + 1, 1, none⟩ = some (.int .i64 n1) ∧ w'.cell? ⟨w2.heap.size + 1, 2, none⟩ = some (.int .i64 n2) ∧ w'.cell? ⟨w2.heap.size + 1, 3, none⟩ = some (.int .i64 n3) ∧ w'.cell? ⟨w2.heap.size + 1, 4, none⟩ = some (.int .i64 m4)) (first | (go_split_ands; (repeat' apply And.intro) <;> (first | with_reducible assumption | (with_reducible (apply cell_keep <;> assumption)) | (simp [go_sem, *]; done))))
    (first | (go_at_call 21; (with_reducible refine (GB.out _).mono ?_); rintro e v1 ⟨rfl, hv1⟩) | (go_at_call 21; (with_reducible refine (GC.out _).mono ?_); rintro e v2 ⟨rfl, hv2⟩))
  have hbz : Below w.heap.size w v2 := (by repeat' (first | with_reducible exact Below.refl _ _ | with_reducible refine below_alloc ?_ _ | with_reducible refine below_drew ?_ | with_reducible refine below_drewN ?_ _ | with_reducible refine below_set ?_ (by first | exact Nat.le_refl _ | (simp <;> omega)) _ | with_reducible refine below_call ?_ (by assumption)))
  clear hxy hxz heq
  go_wp2
  go_ret
  exact ⟨rfl, hbz⟩

theorem once_walk (n0 n1 n2 n3 n4 m0 m1 m2 m3 m4 k : Int) (w : World) :
    Calls Try.prog 11 #[.agg #[.int .i64 n0, .int .i64 n1, .int .i64 n2, .int .i64 n3, .int .i64 n4], .agg #[.int .i64 m0, .int .i64 m1, .int .i64 m2, .int .i64 m3, .int .i64 m4], .int .i64 k] w fun e w' => e = .returned (.bool true) ∧ Below w.heap.size w w' := by
  have h5 : k % 5 = 0 ∨ k % 5 = 1 ∨ k % 5 = 2 ∨ k % 5 = 3 ∨ k % 5 = 4 := by omega
  rcases h5 with h | h | h | h | h
  · exact once_0 n0 n1 n2 n3 n4 m0 m1 m2 m3 m4 k h w
  · exact once_1 n0 n1 n2 n3 n4 m0 m1 m2 m3 m4 k h w
  · exact once_2 n0 n1 n2 n3 n4 m0 m1 m2 m3 m4 k h w
  · exact once_3 n0 n1 n2 n3 n4 m0 m1 m2 m3 m4 k h w
  · exact once_4 n0 n1 n2 n3 n4 m0 m1 m2 m3 m4 k h w

end Go.Proofs.Ytdoanneelnelbaa
