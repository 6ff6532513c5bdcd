/-
  What Ops computes: the listed operations. No condition.
-/
import Derived.Test.YtdoanneelnelbaaU7
import Derived.Test.YtdoanneelnelbaaX1
namespace Go.Proofs.Ytdoanneelnelbaa
set_option linter.unusedSimpArgs false
set_option linter.unusedVariables false
open Go.RowKit

attribute [local go_sem] cell_set

def opsTo (k : Nat) : List Nat := (List.range k).filter fun j => (formOf (j : Int)).is
def ints (l : List Nat) : List Value := l.map fun (j : Nat) => Value.int .i64 (j : Int)

theorem opsTo_succ (k : Nat) : opsTo (k + 1) = opsTo k ++ (if (formOf (k : Int)).is then [k] else []) := by
  unfold opsTo
  rw [List.range_succ, List.filter_append]
  cases h : (formOf (k : Int)).is <;> simp [List.filter, h]

theorem opsTo_len (k : Nat) : (opsTo k).length ≤ k := by
  unfold opsTo
  exact Nat.le_trans (List.length_filter_le _ _) (by simp)

theorem field47_0 (v1 v2 v3 v4 v5 v6 : Value) (b : Bool) (w : World) : (Instr.field 47 (.agg #[.bool b, v1, v2, v3, v4, v5, v6]) 0).run Try.prog w = .ok (.bool b) w := by kernel_rfl

theorem Try.info3 : (Try.prog.info? 3).map (fun i => (i.zero, i.size, i.bytes)) = some (some (.int .i64 0), 1, 8) := by kernel_rfl

def OpsPost (w : World) (e : Ending) (w' : World) : Prop := ∃ v, e = .returned v ∧ w'.ownsRow w.heap.size 3 1 v (opsTo 64).length (ints (opsTo 64)) ∧ Below w.heap.size w w'

set_option maxHeartbeats 1000000 in
theorem ops_any (w : World) : Calls Try.prog 39 #[] w (OpsPost w) := by
  have hfld := field47_0
  obtain ⟨i0, hi, hz0, hz1, hz2⟩ := info_parts Try.info3
  go_enter Try.func39, Try.ntmps39
  go_wp2
  go_loopw [2, 1] (fun i v wr => ∃ k : Nat, k ≤ 64 ∧ i = .int .i64 k ∧ wr.ownsRow w.heap.size 3 1 v (opsTo k).length (ints (opsTo k)) ∧ Below w.heap.size w wr) (fun i _ _ => 64 - (intOf i).toNat)
  case atStart => exact ⟨0, by omega, rfl, World.ownsRow_nil w w.heap.size 3 1, Below.refl _ _⟩
  case round =>
    obtain ⟨k, hk, rfl, hown, hb⟩ := hrel
    by_cases hlt : k < 64
    · have hO := of_any (k : Int)
      have hsn := opsTo_succ k
      have hln := opsTo_len k
      cases hf : (formOf (k : Int)).is
      · rw [hf] at hO hsn
        simp only [Bool.false_eq_true, if_false, List.append_nil] at hsn
        have HO := Lib.hid hO
        have Hsn := Lib.hid hsn
        clear hO hsn hf
        go_wp2_with (go_at_call 26; (with_reducible refine (HO.out _).mono ?_); rintro e w1 ⟨rfl, hb1⟩)
        go_roundw
        case rel => exact ⟨k + 1, by omega, by go_num, by rw [Hsn.out]; exact owns_below hown hb1, below_call hb hb1⟩
        case measure => simp [intOf]; omega
      · rw [hf] at hO hsn
        simp only [if_true] at hsn
        have HO := Lib.hid hO
        have Hsn := Lib.hid hsn
        clear hO hsn hf
        go_wp2_with (first
          | (at_builtin; refine wpList_append_own _ rfl _ _ 59 rfl w.heap.size 3 i0 (.int .i64 0) 1 8 Try.underlying59 hi hz0 hz1 hz2 rfl (by decide) _ _ _ rfl ((owns_below hown ‹Below wr.heap.size wr _›).alloc _) ⟨_, 0, none⟩ 1 1 [.int .i64 (k : Int)] rfl rfl ?c1 ?c2 ?c3 ?c4 ?c5 ?_)
          | (go_at_call 26; (with_reducible refine (HO.out _).mono ?_); rintro e w1 ⟨rfl, hb1⟩))
        case c1 => exact cell_one_new _ _ _
        case c2 => simp [Value.oneCell']
        case c3 => unfold maxLen; omega
        case c4 => omega
        case c5 => have := hb.size; have := (‹Below wr.heap.size wr _›).size; simp; omega
        have hb2 : Below w.heap.size w (w1.alloc (.cells #[.int .i64 (k : Int)] 3)) := (by repeat' (first | with_reducible exact Below.refl _ _ | with_reducible refine below_alloc ?_ _ | with_reducible refine below_drew ?_ | with_reducible refine below_drewN ?_ _ | with_reducible refine below_set ?_ (by first | exact Nat.le_refl _ | (simp <;> omega)) _ | with_reducible refine below_call ?_ (by assumption)))
        intro v' w2 hown2 hgrow _
        have hb3 := below_app hb2 ((owns_below hown ‹Below wr.heap.size wr _›).alloc _) hgrow (Nat.le_refl _)
        have hl : (opsTo (k + 1)).length = (opsTo k).length + 1 := by rw [Hsn.out]; simp
        have hi2 : ints (opsTo (k + 1)) = ints (opsTo k) ++ [.int .i64 (k : Int)] := by rw [Hsn.out]; simp [ints]
        rw [← hl, ← hi2] at hown2
        clear hl hi2
        go_wp2
        go_roundw
        case rel => exact ⟨k + 1, by omega, by go_num, hown2, hb3⟩
        case measure => simp [intOf]; omega
    · obtain rfl : k = 64 := by omega
      go_wp2
      go_ret
      exact ⟨_, rfl, hown, hb⟩

end Go.Proofs.Ytdoanneelnelbaa
