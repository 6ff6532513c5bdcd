/-
  What Mod, Spoilt and three compute. Condition: the immediate is a word.
-/
import Derived.Test.YtdoanneelnelbaaV1
import Derived.Test.YtdoanneelnelbaaU5d
namespace Go.Proofs.Ytdoanneelnelbaa
set_option linter.unusedSimpArgs false
set_option linter.unusedVariables false
open Go.RowKit

attribute [local go_sem] cell_set

theorem enc_at (op d a b imm W E : Int) (h0 : 0 ≤ imm) (h1 : imm < 4294967296) (hW : encW ⟨op, d, a, b, imm⟩ = W) (hE : encE ⟨op, d, a, b, imm⟩ = E) (w : World) :
    Calls Try.prog 17 #[.agg #[.int .i64 op, .int .i64 d, .int .i64 a, .int .i64 b, .int .u32 imm]] w fun e w' => e = .returned (.tuple #[.int .u32 W, .int .i64 E]) ∧ Below w.heap.size w w' := by
  subst hW hE
  exact enc_any ⟨op, d, a, b, imm⟩ w h0 h1

theorem dec0 (w : World) : Calls Try.prog 23 #[.int .u32 0] w fun e w' => e = .returned (.tuple #[.agg #[.int .i64 0, .int .i64 0, .int .i64 0, .int .i64 0, .int .u32 0], .int .i64 12]) ∧ Below w.heap.size w w' := by
  have h := dec_any 0 (by omega) (by omega) w
  have e1 : decV 0 = ⟨0, 0, 0, 0, 0⟩ := by decide +kernel
  have e2 : decE 0 = 12 := by decide +kernel
  rw [e1, e2] at h
  exact h

theorem tgt0 (w : World) : Calls Try.prog 27 #[.agg #[.int .i64 32, .int .i64 0, .int .i64 0, .int .i64 0, .int .u32 4294967294], .int .u32 256] w fun e w' => e = .returned (.tuple #[.int .u32 248, .bool true]) ∧ Below w.heap.size w w' := by
  have h := tgt_any ⟨32, 0, 0, 0, 4294967294⟩ 256 w (by decide) (by decide) (by omega) (by omega)
  have e1 : tgtW ⟨32, 0, 0, 0, 4294967294⟩ 256 = 248 := by decide +kernel
  have e2 : tgtB ⟨32, 0, 0, 0, 4294967294⟩ = true := by decide +kernel
  rw [e1, e2] at h
  exact h

theorem con0 (w : World) : Calls Try.prog 29 #[.int .i64 5, .int .u32 305419896] w fun e w' => e = .returned (.agg #[.int .i64 41, .int .i64 5, .int .i64 0, .int .i64 0, .int .u32 298261, .int .i64 18, .int .i64 5, .int .i64 5, .int .i64 0, .int .u32 632]) ∧ Below w.heap.size w w' :=
  const_any 5 305419896 w (by omega) (by omega)

set_option maxHeartbeats 1000000 in
theorem sanity_any (w : World) : Calls Try.prog 15 #[] w fun e w' => e = .returned (.bool true) ∧ Below w.heap.size w w' := by
  have H1 := Lib.hid (enc_at 1 1 2 3 0 71876608 0 (by omega) (by omega) (by decide +kernel) (by decide +kernel))
  have H2 := Lib.hid (enc_at 16 1 0 0 4294967295 1078198271 0 (by omega) (by omega) (by decide +kernel) (by decide +kernel))
  go_enter Try.func15, Try.ntmps15
  go_wp2_with fail
  refine (H1.out _).mono ?_
  rintro e w1 ⟨rfl, hb1⟩
  go_wp2_with fail
  refine (H2.out _).mono ?_
  rintro e w2 ⟨rfl, hb2⟩
  go_wp2_with fail
  refine (dec0 _).mono ?_
  rintro e w3 ⟨rfl, hb3⟩
  go_wp2_with fail
  refine (tgt0 _).mono ?_
  rintro e w4 ⟨rfl, hb4⟩
  go_wp2_with fail
  refine (con0 _).mono ?_
  rintro e w5 ⟨rfl, hb5⟩
  have hbb : Below w.heap.size w w5 := (by repeat' (first | with_reducible exact Below.refl _ _ | with_reducible refine below_alloc ?_ _ | with_reducible refine below_drew ?_ | with_reducible refine below_drewN ?_ _ | with_reducible refine below_set ?_ (by first | exact Nat.le_refl _ | (simp <;> omega)) _ | with_reducible refine below_call ?_ (by assumption)))
  have Hbb := Lib.hid hbb
  clear hb1 hb2 hb3 hb4 hb5 hbb H1 H2
  go_wp2
  go_ret
  exact ⟨rfl, below_alloc Hbb.out _⟩

/-- An instruction's five cells. -/
def qcells (q : QI) : List Value := [.int .i64 q.op, .int .i64 q.d, .int .i64 q.a, .int .i64 q.b, .int .u32 q.imm]

/-- Three instructions lie in a block. -/
def Three (x : World) (b : Nat) (Q : Nat → QI) : Prop := ∀ k, k < 3 → x.rangeAt b (k * 5) (qcells (Q k))

theorem three_new (w : World) (p q r : QI) : Three (w.alloc (.cells #[.int .i64 p.op, .int .i64 p.d, .int .i64 p.a, .int .i64 p.b, .int .u32 p.imm, .int .i64 q.op, .int .i64 q.d, .int .i64 q.a, .int .i64 q.b, .int .u32 q.imm, .int .i64 r.op, .int .i64 r.d, .int .i64 r.a, .int .i64 r.b, .int .u32 r.imm] 28)) w.heap.size
    (fun k => if k = 0 then p else if k = 1 then q else r) := by
  intro k hk
  have hb := heap_alloc_new' w (.cells #[.int .i64 p.op, .int .i64 p.d, .int .i64 p.a, .int .i64 p.b, .int .u32 p.imm, .int .i64 q.op, .int .i64 q.d, .int .i64 q.a, .int .i64 q.b, .int .u32 q.imm, .int .i64 r.op, .int .i64 r.d, .int .i64 r.a, .int .i64 r.b, .int .u32 r.imm] 28)
  have h3 : k = 0 ∨ k = 1 ∨ k = 2 := by omega
  rcases h3 with rfl | rfl | rfl
  · exact World.rangeAt_of_block hb 0 5
  · exact World.rangeAt_of_block hb 5 5
  · exact World.rangeAt_of_block hb 10 5

theorem range_keep {x w2 : World} (hb : Below x.heap.size x w2) {b o : Nat} {cs : List Value} (h : x.rangeAt b o cs) : w2.rangeAt b o cs := fun j v hv => cell_keep hb (h j v hv)
theorem three_keep {x w2 : World} (hb : Below x.heap.size x w2) {b : Nat} {Q : Nat → QI} (h : Three x b Q) : Three w2 b Q := fun k hk => range_keep hb (h k hk)

theorem three_cells {x : World} {b : Nat} {Q : Nat → QI} (h : Three x b Q) (k : Nat) (hk : k < 3) :
    x.cell? ⟨b, k * 5, none⟩ = some (.int .i64 (Q k).op) ∧ x.cell? ⟨b, k * 5 + 1, none⟩ = some (.int .i64 (Q k).d) ∧ x.cell? ⟨b, k * 5 + 2, none⟩ = some (.int .i64 (Q k).a) ∧ x.cell? ⟨b, k * 5 + 3, none⟩ = some (.int .i64 (Q k).b) ∧
      x.cell? ⟨b, k * 5 + 4, none⟩ = some (.int .u32 (Q k).imm) :=
  ⟨h k hk 0 _ rfl, h k hk 1 _ rfl, h k hk 2 _ rfl, h k hk 3 _ rfl, h k hk 4 _ rfl⟩

end Go.Proofs.Ytdoanneelnelbaa
