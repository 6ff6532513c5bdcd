/-
  What Unused and Ends and their references compute. Condition: the immediate is a word.
-/
import Derived.Test.YtdoanneelnelbaaU9
import Derived.Test.YtdoanneelnelbaaU4
import Derived.Deep.RegionHeld3
namespace Go.Proofs.Ytdoanneelnelbaa
set_option linter.unusedSimpArgs false
set_option linter.unusedVariables false
open Go.RowKit

attribute [local go_sem] cell_set

def ThreePost (f0 f1 f2 f3 imm n0 n1 n2 n3 n4 : Int) (w : World) (e : Ending) (w' : World) : Prop :=
  ∃ j : QI, 0 ≤ j.imm ∧ j.imm < 4294967296 ∧ e = .returned (.agg #[.int .i64 f0, .int .i64 f1, .int .i64 f2, .int .i64 f3, .int .u32 imm,
    .int .i64 (madeR n0 n1 n2 n3 n4).op, .int .i64 (madeR n0 n1 n2 n3 n4).d, .int .i64 (madeR n0 n1 n2 n3 n4).a, .int .i64 (madeR n0 n1 n2 n3 n4).b, .int .u32 (madeR n0 n1 n2 n3 n4).imm,
    .int .i64 j.op, .int .i64 j.d, .int .i64 j.a, .int .i64 j.b, .int .u32 j.imm]) ∧ Below w.heap.size w w'

theorem madeR_imm (n0 n1 n2 n3 n4 : Int) : 0 ≤ (madeR n0 n1 n2 n3 n4).imm ∧ (madeR n0 n1 n2 n3 n4).imm < 4294967296 := by
  unfold madeR
  rcases formOf_cases (madeOp n0) with h | h | h | h | h | h | h | h | h | h | h
  all_goals
    rw [h]
    simp [pw18, pw22]
    first | done | omega | exact sgn_bd _ _ (.inl rfl) | exact sgn_bd _ _ (.inr rfl)

theorem there_keep {x w2 : World} (hb : Below x.heap.size x w2) {b o n : Nat} (h : x.there b o n) : w2.there b o n := fun j hj => by
  obtain ⟨h1, h2⟩ := h j hj
  obtain ⟨v, hv⟩ := Option.isSome_iff_exists.1 h1
  have hlt := World.block_lt_of_cell? x _ hv
  exact ⟨by rw [cell_keep hb hv]; rfl, (hb.frozen (p := ⟨b, o + j, none⟩) hlt).trans h2⟩
theorem cells_out {x : World} {b b2 o o2 : Nat} {vs : List Value} {v : Value} (h : x.cell? ⟨b, o, none⟩ = some v) (hne : ¬ b = b2) : (x.setCells b2 o2 vs).cell? ⟨b, o, none⟩ = some v :=
  (World.cell?_setCells_out b2 vs o2 x ⟨b, o, none⟩ (fun e _ => absurd e hne)).trans h

/-- What a cell holds, under a name that the walk does not open. -/
def oldAt (x : World) (b j : Nat) : Value := (x.cell? ⟨b, j, none⟩).getD undef
theorem old_of {x : World} {b j : Nat} (h : (x.cell? ⟨b, j, none⟩).isSome = true) : x.cell? ⟨b, j, none⟩ = some (oldAt x b j) := by
  obtain ⟨v, hv⟩ := Option.isSome_iff_exists.1 h
  unfold oldAt; rw [hv]; rfl
theorem cell_there15 (x : World) (b j : Nat) (h : x.there b 0 15) (hj : j < 15) : x.cell? ⟨b, j, none⟩ = some (oldAt x b j) := by
  have := (h j hj).1
  rw [Nat.zero_add] at this
  exact old_of this
theorem frz_there15 (x : World) (b j : Nat) (h : x.there b 0 15) (hj : j < 15) : x.frozen? ⟨b, j, none⟩ = false := by
  have := (h j hj).2
  rwa [Nat.zero_add] at this
theorem there_set {x : World} {b o n : Nat} (h : x.there b o n) (p : Addr) (v : Value) : (x.setCell p v).there b o n := fun j hj => by
  obtain ⟨h1, h2⟩ := h j hj
  refine ⟨?_, by rw [World.frozen?_setCell]; exact h2⟩
  rw [cell_set]
  split
  · obtain ⟨u, hu⟩ := Option.isSome_iff_exists.1 h1
    rw [hu]; rfl
  · exact h1
attribute [local go_sem] cell_there15 frz_there15

theorem there_new3 (w : World) (b : Nat) (C : Array Value) (t : TypeId) (hb : b = w.heap.size) (n : Nat) (hn : C.size = n) : (w.alloc (.cells C t)).there b 0 n := fun j hj => by
  subst hb hn
  have e := heap_alloc_new' w (.cells C t)
  unfold World.cell? World.frozen?
  simp only [Nat.zero_add]
  rw [e]
  simp [hj]

theorem arr35 (a : Addr) (W : World) : (Instr.arrayAt 35 (.slice (some a) 5 6)).run Try.prog W = .ok (.pointer (some a)) W := by kernel_rfl

set_option maxHeartbeats 1000000 in
theorem three_any (f0 f1 f2 f3 imm n0 n1 n2 n3 n4 n5 : Int) (w : World) :
    Calls Try.prog 16 #[.agg #[.int .i64 f0, .int .i64 f1, .int .i64 f2, .int .i64 f3], .int .u32 imm, .agg #[.int .i64 n0, .int .i64 n1, .int .i64 n2, .int .i64 n3, .int .i64 n4, .int .i64 n5]] w
      (ThreePost f0 f1 f2 f3 imm n0 n1 n2 n3 n4 w) := by
  have harr := arr35
  go_enter Try.func16, Try.ntmps16
  go_wp2_with fail
  refine (made_any _ _ _ _ _ _).mono ?_
  rintro e w1 ⟨rfl, hb1⟩
  obtain ⟨hc, hfz⟩ := bcell hb1
  have hz := hb1.size
  simp at hz
  have hz2 : w.heap.size + 2 < w1.heap.size := by omega
  have hz1 : w.heap.size + 1 < w1.heap.size := by omega
  have hz0 : w.heap.size < w1.heap.size := by omega
  have hMi := madeR_imm n0 n1 n2 n3 n4
  have hs28 : (Try.prog.info? 28).map (·.size) = some 15 := by kernel_rfl
  have hth : w1.there (w.heap.size + 1 + 1) 0 15 := there_keep hb1 (there_new3 _ _ _ _ (by simp) _ (by rfl))
  have hbx0 : w1.cell? ⟨w.heap.size, 0, none⟩ = some (.int .i64 f0) := by rw [hc _ _ (by simp <;> omega)]; simp [go_sem]
  have hbx1 : w1.cell? ⟨w.heap.size, 1, none⟩ = some (.int .i64 f1) := by rw [hc _ _ (by simp <;> omega)]; simp [go_sem]
  have hbx2 : w1.cell? ⟨w.heap.size, 2, none⟩ = some (.int .i64 f2) := by rw [hc _ _ (by simp <;> omega)]; simp [go_sem]
  have hbx3 : w1.cell? ⟨w.heap.size, 3, none⟩ = some (.int .i64 f3) := by rw [hc _ _ (by simp <;> omega)]; simp [go_sem]
  have hbx5 : w1.cell? ⟨w.heap.size + 1, 5, none⟩ = some (.int .i64 n5) := by rw [hc _ _ (by simp <;> omega)]; simp [go_sem]
  have hn1 : ¬ w.heap.size + 1 + 1 = w1.heap.size := by omega
  have hn2 : ¬ w1.heap.size = w.heap.size + 1 + 1 := by omega
  clear hz hc hfz
  go_upto_region 2 with (fail)
  go_region_held3 (fun w' => w'.cell? ⟨w.heap.size, 0, none⟩ = some (.int .i64 f0) ∧ w'.cell? ⟨w.heap.size, 1, none⟩ = some (.int .i64 f1) ∧ w'.cell? ⟨w.heap.size, 2, none⟩ = some (.int .i64 f2) ∧ w'.cell? ⟨w.heap.size, 3, none⟩ = some (.int .i64 f3) ∧ w'.cell? ⟨w1.heap.size, 0, none⟩ = some (.int .i64 (madeR n0 n1 n2 n3 n4).op) ∧ w'.cell? ⟨w1.heap.size, 1, none⟩ = some (.int .i64 (madeR n0 n1 n2 n3 n4).d) ∧ w'.cell? ⟨w1.heap.size, 2, none⟩ = some (.int .i64 (madeR n0 n1 n2 n3 n4).a) ∧ w'.cell? ⟨w1.heap.size, 3, none⟩ = some (.int .i64 (madeR n0 n1 n2 n3 n4).b) ∧ w'.cell? ⟨w1.heap.size, 4, none⟩ = some (.int .u32 (madeR n0 n1 n2 n3 n4).imm) ∧ w'.cell? ⟨w.heap.size + 1, 5, none⟩ = some (.int .i64 n5) ∧ w'.there (w.heap.size + 1 + 1) 0 15)
    (first | (go_split_ands; (repeat' apply And.intro) <;> (first | with_reducible assumption | (with_reducible (apply cell_keep <;> assumption)) | (with_reducible (apply there_keep <;> assumption)) | (with_reducible ((repeat apply there_set); assumption)) | (simp [go_sem, cell_set, *]; done) | (refine (World.there_drew _ _ _ _).2 (World.there_alloc hth _)))))
    (first | (go_at_call 33; (with_reducible refine (spoilt_any (madeR n0 n1 n2 n3 n4) _ _ hMi.1 hMi.2).mono ?_); rintro e w3 ⟨j, hj0, hj1, rfl, hb3⟩))
  have hth3 : w3.there (w.heap.size + 1 + 1) 0 15 := there_keep hb3 ((World.there_drew _ _ _ _).2 (World.there_alloc hth _))
  have hr0 := cell_there15 w3 (w.heap.size + 1 + 1) 0 hth3 (by omega)
  have hr1 := cell_there15 w3 (w.heap.size + 1 + 1) 1 hth3 (by omega)
  have hr2 := cell_there15 w3 (w.heap.size + 1 + 1) 2 hth3 (by omega)
  have hr3 := cell_there15 w3 (w.heap.size + 1 + 1) 3 hth3 (by omega)
  have hr4 := cell_there15 w3 (w.heap.size + 1 + 1) 4 hth3 (by omega)
  have hr5 := cell_there15 w3 (w.heap.size + 1 + 1) 5 hth3 (by omega)
  have hr6 := cell_there15 w3 (w.heap.size + 1 + 1) 6 hth3 (by omega)
  have hr7 := cell_there15 w3 (w.heap.size + 1 + 1) 7 hth3 (by omega)
  have hr8 := cell_there15 w3 (w.heap.size + 1 + 1) 8 hth3 (by omega)
  have hr9 := cell_there15 w3 (w.heap.size + 1 + 1) 9 hth3 (by omega)
  have hr10 := cell_there15 w3 (w.heap.size + 1 + 1) 10 hth3 (by omega)
  have hr11 := cell_there15 w3 (w.heap.size + 1 + 1) 11 hth3 (by omega)
  have hr12 := cell_there15 w3 (w.heap.size + 1 + 1) 12 hth3 (by omega)
  have hr13 := cell_there15 w3 (w.heap.size + 1 + 1) 13 hth3 (by omega)
  have hr14 := cell_there15 w3 (w.heap.size + 1 + 1) 14 hth3 (by omega)
  have hbb : Below w.heap.size w w3 := (by repeat' (first | with_reducible exact Below.refl _ _ | with_reducible refine below_alloc ?_ _ | with_reducible refine below_drew ?_ | with_reducible refine below_drewN ?_ _ | with_reducible refine below_set ?_ (by first | exact Nat.le_refl _ | (simp <;> omega)) _ | with_reducible refine below_call ?_ (by assumption)))
  clear hb1 hb3 hth3 hth hs28 hbx0 hbx1 hbx2 hbx3 hbx5
  go_wp2
  refine bodyPost_ret (v := .agg #[.int .i64 f0, .int .i64 f1, .int .i64 f2, .int .i64 f3, .int .u32 imm, .int .i64 (madeR n0 n1 n2 n3 n4).op, .int .i64 (madeR n0 n1 n2 n3 n4).d, .int .i64 (madeR n0 n1 n2 n3 n4).a, .int .i64 (madeR n0 n1 n2 n3 n4).b, .int .u32 (madeR n0 n1 n2 n3 n4).imm, .int .i64 j.op, .int .i64 j.d, .int .i64 j.a, .int .i64 j.b, .int .u32 j.imm]) ?_ rfl ⟨j, hj0, hj1, rfl, ?_⟩
  · simp [results, Try.results16, go_sem, cell_set, hr0, hr1, hr2, hr3, hr4, hr5, hr6, hr7, hr8, hr9, hr10, hr11, hr12, hr13, hr14]
  · repeat (with_reducible refine below_set ?_ (by simp only; omega) _)
    exact hbb

end Go.Proofs.Ytdoanneelnelbaa
