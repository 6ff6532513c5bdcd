/-
  What of computes: the form of an operation. No condition.
-/
import Derived.Test.YtdoanneelnelbaaT2
import Derived.Test.YtdoanneelnelbaaW3
import Derived.Deep.WholeRow
namespace Go.Proofs.Ytdoanneelnelbaa
set_option linter.unusedSimpArgs false
set_option linter.unusedVariables false
open Go.RowKit

def kindOf (f : Form) : Int := if f.bits = 0 then 0 else if f.sg then 1 else 2

theorem tab_at (k : Nat) (hk : k < 64) (j : Nat) (hj : j < 7) : (tabCells shapeT)[k * 7 + j]? = (svl (shapeOf k))[j]? := flat_get _ (fun k => svl_len _) 64 k j hk hj

set_option maxHeartbeats 1000000 in
theorem ofS_any (op : Int) (w : World) :
    Calls Try.prog 34 #[.int .i64 op] w fun e w' => e = .returned (.agg #[.bool (formOf op).is, .bool (formOf op).d, .bool (formOf op).a, .bool (formOf op).b, .int .i64 (kindOf (formOf op)), .int .i64 (formOf op).bits, .int .u32 (formOf op).most]) ∧ Below w.heap.size w w' := by
  have hz70 := zero70
  have hlen : (tabCells shapeT).length = 448 := flat_len _ (fun k => svl_len _) 64
  have h448 : (tabCells shapeT).toArray.size = 448 := by rw [List.size_toArray, hlen]
  have hsz2 : (Try.prog.info? 70).map (·.size) = some (tabCells shapeT).toArray.size := by rw [h448]; kernel_rfl
  have hZ : Z70.size = (tabCells shapeT).toArray.size := by rw [h448]; exact (by decide +kernel : Z70.size = 448)
  have hst := fun w1 : World => run_storeCells_new (P := Try.prog) w1 70 Z70 (tabCells shapeT).toArray hsz2 hZ (all_oneCell_toArray (tab_one _))
  simp only [List.toList_toArray] at hst
  clear hsz2 hZ h448
  by_cases hin : op < 0 ∨ 64 ≤ op
  · rw [formOf_out op hin]
    go_enter Try.func34, Try.ntmps34
    go_wp2_with fail
    refine (shapes_any _).mono ?_
    rintro e w1 ⟨rfl, hb1⟩
    obtain ⟨hc, hfz⟩ := bcell hb1
    have hz := grew hb1
    generalize tabCells shapeT = tl at *
    go_wp2
    all_goals
      refine bodyPost_ret ?_ rfl ⟨rfl, (by repeat' (first | with_reducible exact Below.refl _ _ | with_reducible refine below_alloc ?_ _ | with_reducible refine below_drew ?_ | with_reducible refine below_drewN ?_ _ | with_reducible refine below_set ?_ (by first | exact Nat.le_refl _ | (simp <;> omega)) _ | with_reducible refine below_call ?_ (by assumption)))⟩
      simp [results, Try.results34, go_sem, hc, hz, kindOf]
  · obtain ⟨k, rfl⟩ := Int.eq_ofNat_of_zero_le (show 0 ≤ op by omega)
    have t0 := tab_at k (by omega) 0 (by omega)
    have t1 := tab_at k (by omega) 1 (by omega)
    have t2 := tab_at k (by omega) 2 (by omega)
    have t3 := tab_at k (by omega) 3 (by omega)
    have t4 := tab_at k (by omega) 4 (by omega)
    have t5 := tab_at k (by omega) 5 (by omega)
    have t6 := tab_at k (by omega) 6 (by omega)
    rw [Nat.add_zero] at t0
    simp only [svl, shapeOf, List.getElem?_cons_zero, List.getElem?_cons_succ] at t0 t1 t2 t3 t4 t5 t6
    generalize formOf (k : Int) = f at *
    change _ = some (Value.int .i64 (kindOf f)) at t4
    go_enter Try.func34, Try.ntmps34
    go_wp2_with fail
    refine (shapes_any _).mono ?_
    rintro e w1 ⟨rfl, hb1⟩
    obtain ⟨hc, hfz⟩ := bcell hb1
    have hz := grew hb1
    generalize tabCells shapeT = tl at *
    go_wp2
    all_goals
      refine bodyPost_ret ?_ rfl ⟨rfl, (by repeat' (first | with_reducible exact Below.refl _ _ | with_reducible refine below_alloc ?_ _ | with_reducible refine below_drew ?_ | with_reducible refine below_drewN ?_ _ | with_reducible refine below_set ?_ (by first | exact Nat.le_refl _ | (simp <;> omega)) _ | with_reducible refine below_call ?_ (by assumption)))⟩
      simp [results, Try.results34, go_sem, hc, hz]

theorem immediate_v (f : Form) (hf : f.Fine) (x0 x1 x2 x3 : Bool) (n : Int) (w : World) (hn : 0 ≤ n) (hn2 : n < 4294967296) :
    Calls Try.prog 36 #[.agg #[.bool x0, .bool x1, .bool x2, .bool x3, .int .i64 (kindOf f), .int .i64 f.bits, .int .u32 f.most], .int .u32 n] w fun e w' => e = .returned (.bool (immR f n)) ∧ Below w.heap.size w w' :=
  immediate_any ⟨x0, x1, x2, x3, f.sg, f.bits, f.most⟩ ⟨hf.bits, hf.sg, hf.most, hf.m0⟩ n w hn hn2

end Go.Proofs.Ytdoanneelnelbaa
