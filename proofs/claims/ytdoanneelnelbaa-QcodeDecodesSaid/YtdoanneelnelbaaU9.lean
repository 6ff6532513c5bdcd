/-
  What Made computes: an instruction that is valid. No condition.
-/
import Derived.Test.YtdoanneelnelbaaU8
namespace Go.Proofs.Ytdoanneelnelbaa
set_option linter.unusedSimpArgs false
set_option linter.unusedVariables false
open Go.RowKit

attribute [local go_sem] cell_set

def madeOp (n0 : Int) : Int := (((opsTo 64)[(n0 % 39).toNat]?.getD 0 : Nat) : Int)
def madeR (n0 n1 n2 n3 n4 : Int) : QI :=
  ⟨madeOp n0, if (formOf (madeOp n0)).d then n1 % 16 else 0, if (formOf (madeOp n0)).a then n2 % 16 else 0, if (formOf (madeOp n0)).b then n3 % 16 else 0,
   if (formOf (madeOp n0)).sg then sgn (if 0 < (formOf (madeOp n0)).most then n4 % ((formOf (madeOp n0)).most + 1) else if 0 < (formOf (madeOp n0)).bits then n4 % pw (formOf (madeOp n0)).bits else 0) (formOf (madeOp n0)).bits
   else (if 0 < (formOf (madeOp n0)).most then n4 % ((formOf (madeOp n0)).most + 1) else if 0 < (formOf (madeOp n0)).bits then n4 % pw (formOf (madeOp n0)).bits else 0)⟩

theorem opsTo_64 : (opsTo 64).length = 39 := by decide +kernel

theorem ints_at (n0 : Int) : (ints (opsTo 64))[(n0 % 39).toNat]? = some (.int .i64 (madeOp n0)) := by
  unfold ints madeOp
  have hl := opsTo_64
  have hj : (n0 % 39).toNat < (opsTo 64).length := by omega
  rw [List.getElem?_map, List.getElem?_eq_getElem hj]
  rfl

theorem madeOp_is (n0 : Int) : (formOf (madeOp n0)).is = true := by
  unfold madeOp
  have hl := opsTo_64
  have hj : (n0 % 39).toNat < (opsTo 64).length := by omega
  rw [List.getElem?_eq_getElem hj]
  have := List.getElem_mem hj
  unfold opsTo at this
  rw [List.mem_filter] at this
  exact this.2

theorem own_form {w : World} {base : Nat} {e : TypeId} {size : Nat} {v : Value} {n : Nat} {xs : List Value} (h : w.ownsRow base e size v n xs) (hn : n ≠ 0) : ∃ g cap, v = .slice (some ⟨g, 0, none⟩) n cap := by
  rcases h.2 with ⟨_, h0⟩ | ⟨g, cap, _, rfl, _⟩
  · exact absurd h0 hn
  · exact ⟨g, cap, rfl⟩

set_option maxHeartbeats 1000000 in
theorem made_0 (n0 n1 n2 n3 n4 : Int) (hff : formOf (madeOp n0) = ⟨true, true, true, true, false, 0, 0⟩) (w : World) :
    Calls Try.prog 21 #[.agg #[.int .i64 n0, .int .i64 n1, .int .i64 n2, .int .i64 n3, .int .i64 n4]] w
      fun e w' => e = .returned (.agg #[.int .i64 (madeR n0 n1 n2 n3 n4).op, .int .i64 (madeR n0 n1 n2 n3 n4).d, .int .i64 (madeR n0 n1 n2 n3 n4).a, .int .i64 (madeR n0 n1 n2 n3 n4).b, .int .u32 (madeR n0 n1 n2 n3 n4).imm]) ∧ Below w.heap.size w w' := by
  have hi : madeR n0 n1 n2 n3 n4 = ⟨madeOp n0, n1 % 16, n2 % 16, n3 % 16, 0⟩ := by unfold madeR; rw [hff]; rfl
  have hO := of_any (madeOp n0)
  rw [hff] at hO
  rw [hi]
  simp only at hO
  have HO := Lib.hid hO
  clear hO hff hi
  have hlen : (opsTo 64).length = 39 := by decide +kernel
  have hidx : (ints (opsTo 64))[(n0 % 39).toNat]? = some (.int .i64 (madeOp n0)) := ints_at n0
  go_enter Try.func21, Try.ntmps21
  go_wp2_with fail
  refine (ops_any _).mono ?_
  rintro e w1 ⟨v, rfl, hown, hb1⟩
  rw [hlen] at hown
  obtain ⟨g, cap, rfl⟩ := own_form hown (by omega)
  have hcell := hown.cellAt (n0 % 39).toNat (by omega)
  rw [hidx] at hcell
  have hm0 : 0 ≤ n0 % 39 := by omega
  have hm1 : n0 % 39 < 39 := by omega
  clear hlen hidx hown
  obtain ⟨hc, hfz⟩ := bcell hb1
  have hz1 : w.heap.size + 1 < w1.heap.size := by have := hb1.size; simp at this; omega
  have hz : w.heap.size < w1.heap.size := by omega
  go_wp2_with (go_at_call 22; (with_reducible refine (mod_any _ _ (by omega) (by omega) _).mono ?_); rintro e w' ⟨rfl, rfl⟩)
  refine (HO.out _).mono ?_
  rintro e w2 ⟨rfl, hb2⟩
  obtain ⟨hc2, hfz2⟩ := bcell hb2
  have hy0 : w1.heap.size < w2.heap.size := grew hb2
  have hy1 : w.heap.size + 1 < w2.heap.size := by omega
  have hy2 : w.heap.size < w2.heap.size := by omega
  have hy3 : w.heap.size < w1.heap.size + 1 := by omega
  have hy4 : w.heap.size + 1 < w1.heap.size + 1 := by omega
  go_wp2_with (first
    | (go_at_call 22; (with_reducible refine (mod_any _ _ (by omega) (by omega) _).mono ?_); rintro e w' ⟨rfl, rfl⟩)
    | (go_at_call 40; (with_reducible refine (sign1_any _ _ _ (by omega) (by omega) (by omega)).mono ?_); rintro e w' ⟨rfl, rfl⟩))
  refine bodyPost_ret ?_ rfl ⟨rfl, (by repeat' (first | with_reducible exact Below.refl _ _ | with_reducible refine below_alloc ?_ _ | with_reducible refine below_drew ?_ | with_reducible refine below_drewN ?_ _ | with_reducible refine below_set ?_ (by first | exact Nat.le_refl _ | (simp <;> omega)) _ | with_reducible refine below_call ?_ (by assumption)))⟩
  simp [results, Try.results21, go_sem, cell_set, hc2, hc, hz, hz1, hy0, hy1, hy2, hy3, hy4]

set_option maxHeartbeats 1000000 in
theorem made_1 (n0 n1 n2 n3 n4 : Int) (hff : formOf (madeOp n0) = ⟨true, true, true, false, false, 18, 0⟩) (w : World) :
    Calls Try.prog 21 #[.agg #[.int .i64 n0, .int .i64 n1, .int .i64 n2, .int .i64 n3, .int .i64 n4]] w
      fun e w' => e = .returned (.agg #[.int .i64 (madeR n0 n1 n2 n3 n4).op, .int .i64 (madeR n0 n1 n2 n3 n4).d, .int .i64 (madeR n0 n1 n2 n3 n4).a, .int .i64 (madeR n0 n1 n2 n3 n4).b, .int .u32 (madeR n0 n1 n2 n3 n4).imm]) ∧ Below w.heap.size w w' := by
  have hi : madeR n0 n1 n2 n3 n4 = ⟨madeOp n0, n1 % 16, n2 % 16, 0, n4 % 262144⟩ := by unfold madeR; rw [hff]; rfl
  have hO := of_any (madeOp n0)
  rw [hff] at hO
  rw [hi]
  simp only at hO
  have HO := Lib.hid hO
  clear hO hff hi
  have hlen : (opsTo 64).length = 39 := by decide +kernel
  have hidx : (ints (opsTo 64))[(n0 % 39).toNat]? = some (.int .i64 (madeOp n0)) := ints_at n0
  go_enter Try.func21, Try.ntmps21
  go_wp2_with fail
  refine (ops_any _).mono ?_
  rintro e w1 ⟨v, rfl, hown, hb1⟩
  rw [hlen] at hown
  obtain ⟨g, cap, rfl⟩ := own_form hown (by omega)
  have hcell := hown.cellAt (n0 % 39).toNat (by omega)
  rw [hidx] at hcell
  have hm0 : 0 ≤ n0 % 39 := by omega
  have hm1 : n0 % 39 < 39 := by omega
  clear hlen hidx hown
  obtain ⟨hc, hfz⟩ := bcell hb1
  have hz1 : w.heap.size + 1 < w1.heap.size := by have := hb1.size; simp at this; omega
  have hz : w.heap.size < w1.heap.size := by omega
  go_wp2_with (go_at_call 22; (with_reducible refine (mod_any _ _ (by omega) (by omega) _).mono ?_); rintro e w' ⟨rfl, rfl⟩)
  refine (HO.out _).mono ?_
  rintro e w2 ⟨rfl, hb2⟩
  obtain ⟨hc2, hfz2⟩ := bcell hb2
  have hy0 : w1.heap.size < w2.heap.size := grew hb2
  have hy1 : w.heap.size + 1 < w2.heap.size := by omega
  have hy2 : w.heap.size < w2.heap.size := by omega
  have hy3 : w.heap.size < w1.heap.size + 1 := by omega
  have hy4 : w.heap.size + 1 < w1.heap.size + 1 := by omega
  go_wp2_with (first
    | (go_at_call 22; (with_reducible refine (mod_any _ _ (by omega) (by omega) _).mono ?_); rintro e w' ⟨rfl, rfl⟩)
    | (go_at_call 40; (with_reducible refine (sign1_any _ _ _ (by omega) (by omega) (by omega)).mono ?_); rintro e w' ⟨rfl, rfl⟩))
  refine bodyPost_ret ?_ rfl ⟨rfl, (by repeat' (first | with_reducible exact Below.refl _ _ | with_reducible refine below_alloc ?_ _ | with_reducible refine below_drew ?_ | with_reducible refine below_drewN ?_ _ | with_reducible refine below_set ?_ (by first | exact Nat.le_refl _ | (simp <;> omega)) _ | with_reducible refine below_call ?_ (by assumption)))⟩
  simp [results, Try.results21, go_sem, cell_set, hc2, hc, hz, hz1, hy0, hy1, hy2, hy3, hy4]

set_option maxHeartbeats 1000000 in
theorem made_2 (n0 n1 n2 n3 n4 : Int) (hff : formOf (madeOp n0) = ⟨true, true, true, false, true, 18, 0⟩) (w : World) :
    Calls Try.prog 21 #[.agg #[.int .i64 n0, .int .i64 n1, .int .i64 n2, .int .i64 n3, .int .i64 n4]] w
      fun e w' => e = .returned (.agg #[.int .i64 (madeR n0 n1 n2 n3 n4).op, .int .i64 (madeR n0 n1 n2 n3 n4).d, .int .i64 (madeR n0 n1 n2 n3 n4).a, .int .i64 (madeR n0 n1 n2 n3 n4).b, .int .u32 (madeR n0 n1 n2 n3 n4).imm]) ∧ Below w.heap.size w w' := by
  have hi : madeR n0 n1 n2 n3 n4 = ⟨madeOp n0, n1 % 16, n2 % 16, 0, sgn (n4 % 262144) 18⟩ := by unfold madeR; rw [hff]; rfl
  have hO := of_any (madeOp n0)
  rw [hff] at hO
  rw [hi]
  simp only at hO
  have HO := Lib.hid hO
  clear hO hff hi
  have hlen : (opsTo 64).length = 39 := by decide +kernel
  have hidx : (ints (opsTo 64))[(n0 % 39).toNat]? = some (.int .i64 (madeOp n0)) := ints_at n0
  go_enter Try.func21, Try.ntmps21
  go_wp2_with fail
  refine (ops_any _).mono ?_
  rintro e w1 ⟨v, rfl, hown, hb1⟩
  rw [hlen] at hown
  obtain ⟨g, cap, rfl⟩ := own_form hown (by omega)
  have hcell := hown.cellAt (n0 % 39).toNat (by omega)
  rw [hidx] at hcell
  have hm0 : 0 ≤ n0 % 39 := by omega
  have hm1 : n0 % 39 < 39 := by omega
  clear hlen hidx hown
  obtain ⟨hc, hfz⟩ := bcell hb1
  have hz1 : w.heap.size + 1 < w1.heap.size := by have := hb1.size; simp at this; omega
  have hz : w.heap.size < w1.heap.size := by omega
  go_wp2_with (go_at_call 22; (with_reducible refine (mod_any _ _ (by omega) (by omega) _).mono ?_); rintro e w' ⟨rfl, rfl⟩)
  refine (HO.out _).mono ?_
  rintro e w2 ⟨rfl, hb2⟩
  obtain ⟨hc2, hfz2⟩ := bcell hb2
  have hy0 : w1.heap.size < w2.heap.size := grew hb2
  have hy1 : w.heap.size + 1 < w2.heap.size := by omega
  have hy2 : w.heap.size < w2.heap.size := by omega
  have hy3 : w.heap.size < w1.heap.size + 1 := by omega
  have hy4 : w.heap.size + 1 < w1.heap.size + 1 := by omega
  go_wp2_with (first
    | (go_at_call 22; (with_reducible refine (mod_any _ _ (by omega) (by omega) _).mono ?_); rintro e w' ⟨rfl, rfl⟩)
    | (go_at_call 40; (with_reducible refine (sign1_any _ _ _ (by omega) (by omega) (by omega)).mono ?_); rintro e w' ⟨rfl, rfl⟩))
  refine bodyPost_ret ?_ rfl ⟨rfl, (by repeat' (first | with_reducible exact Below.refl _ _ | with_reducible refine below_alloc ?_ _ | with_reducible refine below_drew ?_ | with_reducible refine below_drewN ?_ _ | with_reducible refine below_set ?_ (by first | exact Nat.le_refl _ | (simp <;> omega)) _ | with_reducible refine below_call ?_ (by assumption)))⟩
  simp [results, Try.results21, go_sem, cell_set, hc2, hc, hz, hz1, hy0, hy1, hy2, hy3, hy4]

set_option maxHeartbeats 1000000 in
theorem made_3 (n0 n1 n2 n3 n4 : Int) (hff : formOf (madeOp n0) = ⟨true, true, false, false, true, 22, 0⟩) (w : World) :
    Calls Try.prog 21 #[.agg #[.int .i64 n0, .int .i64 n1, .int .i64 n2, .int .i64 n3, .int .i64 n4]] w
      fun e w' => e = .returned (.agg #[.int .i64 (madeR n0 n1 n2 n3 n4).op, .int .i64 (madeR n0 n1 n2 n3 n4).d, .int .i64 (madeR n0 n1 n2 n3 n4).a, .int .i64 (madeR n0 n1 n2 n3 n4).b, .int .u32 (madeR n0 n1 n2 n3 n4).imm]) ∧ Below w.heap.size w w' := by
  have hi : madeR n0 n1 n2 n3 n4 = ⟨madeOp n0, n1 % 16, 0, 0, sgn (n4 % 4194304) 22⟩ := by unfold madeR; rw [hff]; rfl
  have hO := of_any (madeOp n0)
  rw [hff] at hO
  rw [hi]
  simp only at hO
  have HO := Lib.hid hO
  clear hO hff hi
  have hlen : (opsTo 64).length = 39 := by decide +kernel
  have hidx : (ints (opsTo 64))[(n0 % 39).toNat]? = some (.int .i64 (madeOp n0)) := ints_at n0
  go_enter Try.func21, Try.ntmps21
  go_wp2_with fail
  refine (ops_any _).mono ?_
  rintro e w1 ⟨v, rfl, hown, hb1⟩
  rw [hlen] at hown
  obtain ⟨g, cap, rfl⟩ := own_form hown (by omega)
  have hcell := hown.cellAt (n0 % 39).toNat (by omega)
  rw [hidx] at hcell
  have hm0 : 0 ≤ n0 % 39 := by omega
  have hm1 : n0 % 39 < 39 := by omega
  clear hlen hidx hown
  obtain ⟨hc, hfz⟩ := bcell hb1
  have hz1 : w.heap.size + 1 < w1.heap.size := by have := hb1.size; simp at this; omega
  have hz : w.heap.size < w1.heap.size := by omega
  go_wp2_with (go_at_call 22; (with_reducible refine (mod_any _ _ (by omega) (by omega) _).mono ?_); rintro e w' ⟨rfl, rfl⟩)
  refine (HO.out _).mono ?_
  rintro e w2 ⟨rfl, hb2⟩
  obtain ⟨hc2, hfz2⟩ := bcell hb2
  have hy0 : w1.heap.size < w2.heap.size := grew hb2
  have hy1 : w.heap.size + 1 < w2.heap.size := by omega
  have hy2 : w.heap.size < w2.heap.size := by omega
  have hy3 : w.heap.size < w1.heap.size + 1 := by omega
  have hy4 : w.heap.size + 1 < w1.heap.size + 1 := by omega
  go_wp2_with (first
    | (go_at_call 22; (with_reducible refine (mod_any _ _ (by omega) (by omega) _).mono ?_); rintro e w' ⟨rfl, rfl⟩)
    | (go_at_call 40; (with_reducible refine (sign1_any _ _ _ (by omega) (by omega) (by omega)).mono ?_); rintro e w' ⟨rfl, rfl⟩))
  refine bodyPost_ret ?_ rfl ⟨rfl, (by repeat' (first | with_reducible exact Below.refl _ _ | with_reducible refine below_alloc ?_ _ | with_reducible refine below_drew ?_ | with_reducible refine below_drewN ?_ _ | with_reducible refine below_set ?_ (by first | exact Nat.le_refl _ | (simp <;> omega)) _ | with_reducible refine below_call ?_ (by assumption)))⟩
  simp [results, Try.results21, go_sem, cell_set, hc2, hc, hz, hz1, hy0, hy1, hy2, hy3, hy4]

set_option maxHeartbeats 1000000 in
theorem made_4 (n0 n1 n2 n3 n4 : Int) (hff : formOf (madeOp n0) = ⟨true, true, false, false, false, 22, 0⟩) (w : World) :
    Calls Try.prog 21 #[.agg #[.int .i64 n0, .int .i64 n1, .int .i64 n2, .int .i64 n3, .int .i64 n4]] w
      fun e w' => e = .returned (.agg #[.int .i64 (madeR n0 n1 n2 n3 n4).op, .int .i64 (madeR n0 n1 n2 n3 n4).d, .int .i64 (madeR n0 n1 n2 n3 n4).a, .int .i64 (madeR n0 n1 n2 n3 n4).b, .int .u32 (madeR n0 n1 n2 n3 n4).imm]) ∧ Below w.heap.size w w' := by
  have hi : madeR n0 n1 n2 n3 n4 = ⟨madeOp n0, n1 % 16, 0, 0, n4 % 4194304⟩ := by unfold madeR; rw [hff]; rfl
  have hO := of_any (madeOp n0)
  rw [hff] at hO
  rw [hi]
  simp only at hO
  have HO := Lib.hid hO
  clear hO hff hi
  have hlen : (opsTo 64).length = 39 := by decide +kernel
  have hidx : (ints (opsTo 64))[(n0 % 39).toNat]? = some (.int .i64 (madeOp n0)) := ints_at n0
  go_enter Try.func21, Try.ntmps21
  go_wp2_with fail
  refine (ops_any _).mono ?_
  rintro e w1 ⟨v, rfl, hown, hb1⟩
  rw [hlen] at hown
  obtain ⟨g, cap, rfl⟩ := own_form hown (by omega)
  have hcell := hown.cellAt (n0 % 39).toNat (by omega)
  rw [hidx] at hcell
  have hm0 : 0 ≤ n0 % 39 := by omega
  have hm1 : n0 % 39 < 39 := by omega
  clear hlen hidx hown
  obtain ⟨hc, hfz⟩ := bcell hb1
  have hz1 : w.heap.size + 1 < w1.heap.size := by have := hb1.size; simp at this; omega
  have hz : w.heap.size < w1.heap.size := by omega
  go_wp2_with (go_at_call 22; (with_reducible refine (mod_any _ _ (by omega) (by omega) _).mono ?_); rintro e w' ⟨rfl, rfl⟩)
  refine (HO.out _).mono ?_
  rintro e w2 ⟨rfl, hb2⟩
  obtain ⟨hc2, hfz2⟩ := bcell hb2
  have hy0 : w1.heap.size < w2.heap.size := grew hb2
  have hy1 : w.heap.size + 1 < w2.heap.size := by omega
  have hy2 : w.heap.size < w2.heap.size := by omega
  have hy3 : w.heap.size < w1.heap.size + 1 := by omega
  have hy4 : w.heap.size + 1 < w1.heap.size + 1 := by omega
  go_wp2_with (first
    | (go_at_call 22; (with_reducible refine (mod_any _ _ (by omega) (by omega) _).mono ?_); rintro e w' ⟨rfl, rfl⟩)
    | (go_at_call 40; (with_reducible refine (sign1_any _ _ _ (by omega) (by omega) (by omega)).mono ?_); rintro e w' ⟨rfl, rfl⟩))
  refine bodyPost_ret ?_ rfl ⟨rfl, (by repeat' (first | with_reducible exact Below.refl _ _ | with_reducible refine below_alloc ?_ _ | with_reducible refine below_drew ?_ | with_reducible refine below_drewN ?_ _ | with_reducible refine below_set ?_ (by first | exact Nat.le_refl _ | (simp <;> omega)) _ | with_reducible refine below_call ?_ (by assumption)))⟩
  simp [results, Try.results21, go_sem, cell_set, hc2, hc, hz, hz1, hy0, hy1, hy2, hy3, hy4]

set_option maxHeartbeats 1000000 in
theorem made_5 (n0 n1 n2 n3 n4 : Int) (hff : formOf (madeOp n0) = ⟨true, false, false, false, false, 18, 0⟩) (w : World) :
    Calls Try.prog 21 #[.agg #[.int .i64 n0, .int .i64 n1, .int .i64 n2, .int .i64 n3, .int .i64 n4]] w
      fun e w' => e = .returned (.agg #[.int .i64 (madeR n0 n1 n2 n3 n4).op, .int .i64 (madeR n0 n1 n2 n3 n4).d, .int .i64 (madeR n0 n1 n2 n3 n4).a, .int .i64 (madeR n0 n1 n2 n3 n4).b, .int .u32 (madeR n0 n1 n2 n3 n4).imm]) ∧ Below w.heap.size w w' := by
  have hi : madeR n0 n1 n2 n3 n4 = ⟨madeOp n0, 0, 0, 0, n4 % 262144⟩ := by unfold madeR; rw [hff]; rfl
  have hO := of_any (madeOp n0)
  rw [hff] at hO
  rw [hi]
  simp only at hO
  have HO := Lib.hid hO
  clear hO hff hi
  have hlen : (opsTo 64).length = 39 := by decide +kernel
  have hidx : (ints (opsTo 64))[(n0 % 39).toNat]? = some (.int .i64 (madeOp n0)) := ints_at n0
  go_enter Try.func21, Try.ntmps21
  go_wp2_with fail
  refine (ops_any _).mono ?_
  rintro e w1 ⟨v, rfl, hown, hb1⟩
  rw [hlen] at hown
  obtain ⟨g, cap, rfl⟩ := own_form hown (by omega)
  have hcell := hown.cellAt (n0 % 39).toNat (by omega)
  rw [hidx] at hcell
  have hm0 : 0 ≤ n0 % 39 := by omega
  have hm1 : n0 % 39 < 39 := by omega
  clear hlen hidx hown
  obtain ⟨hc, hfz⟩ := bcell hb1
  have hz1 : w.heap.size + 1 < w1.heap.size := by have := hb1.size; simp at this; omega
  have hz : w.heap.size < w1.heap.size := by omega
  go_wp2_with (go_at_call 22; (with_reducible refine (mod_any _ _ (by omega) (by omega) _).mono ?_); rintro e w' ⟨rfl, rfl⟩)
  refine (HO.out _).mono ?_
  rintro e w2 ⟨rfl, hb2⟩
  obtain ⟨hc2, hfz2⟩ := bcell hb2
  have hy0 : w1.heap.size < w2.heap.size := grew hb2
  have hy1 : w.heap.size + 1 < w2.heap.size := by omega
  have hy2 : w.heap.size < w2.heap.size := by omega
  have hy3 : w.heap.size < w1.heap.size + 1 := by omega
  have hy4 : w.heap.size + 1 < w1.heap.size + 1 := by omega
  go_wp2_with (first
    | (go_at_call 22; (with_reducible refine (mod_any _ _ (by omega) (by omega) _).mono ?_); rintro e w' ⟨rfl, rfl⟩)
    | (go_at_call 40; (with_reducible refine (sign1_any _ _ _ (by omega) (by omega) (by omega)).mono ?_); rintro e w' ⟨rfl, rfl⟩))
  refine bodyPost_ret ?_ rfl ⟨rfl, (by repeat' (first | with_reducible exact Below.refl _ _ | with_reducible refine below_alloc ?_ _ | with_reducible refine below_drew ?_ | with_reducible refine below_drewN ?_ _ | with_reducible refine below_set ?_ (by first | exact Nat.le_refl _ | (simp <;> omega)) _ | with_reducible refine below_call ?_ (by assumption)))⟩
  simp [results, Try.results21, go_sem, cell_set, hc2, hc, hz, hz1, hy0, hy1, hy2, hy3, hy4]

set_option maxHeartbeats 1000000 in
theorem made_6 (n0 n1 n2 n3 n4 : Int) (hff : formOf (madeOp n0) = ⟨true, false, false, false, false, 0, 0⟩) (w : World) :
    Calls Try.prog 21 #[.agg #[.int .i64 n0, .int .i64 n1, .int .i64 n2, .int .i64 n3, .int .i64 n4]] w
      fun e w' => e = .returned (.agg #[.int .i64 (madeR n0 n1 n2 n3 n4).op, .int .i64 (madeR n0 n1 n2 n3 n4).d, .int .i64 (madeR n0 n1 n2 n3 n4).a, .int .i64 (madeR n0 n1 n2 n3 n4).b, .int .u32 (madeR n0 n1 n2 n3 n4).imm]) ∧ Below w.heap.size w w' := by
  have hi : madeR n0 n1 n2 n3 n4 = ⟨madeOp n0, 0, 0, 0, 0⟩ := by unfold madeR; rw [hff]; rfl
  have hO := of_any (madeOp n0)
  rw [hff] at hO
  rw [hi]
  simp only at hO
  have HO := Lib.hid hO
  clear hO hff hi
  have hlen : (opsTo 64).length = 39 := by decide +kernel
  have hidx : (ints (opsTo 64))[(n0 % 39).toNat]? = some (.int .i64 (madeOp n0)) := ints_at n0
  go_enter Try.func21, Try.ntmps21
  go_wp2_with fail
  refine (ops_any _).mono ?_
  rintro e w1 ⟨v, rfl, hown, hb1⟩
  rw [hlen] at hown
  obtain ⟨g, cap, rfl⟩ := own_form hown (by omega)
  have hcell := hown.cellAt (n0 % 39).toNat (by omega)
  rw [hidx] at hcell
  have hm0 : 0 ≤ n0 % 39 := by omega
  have hm1 : n0 % 39 < 39 := by omega
  clear hlen hidx hown
  obtain ⟨hc, hfz⟩ := bcell hb1
  have hz1 : w.heap.size + 1 < w1.heap.size := by have := hb1.size; simp at this; omega
  have hz : w.heap.size < w1.heap.size := by omega
  go_wp2_with (go_at_call 22; (with_reducible refine (mod_any _ _ (by omega) (by omega) _).mono ?_); rintro e w' ⟨rfl, rfl⟩)
  refine (HO.out _).mono ?_
  rintro e w2 ⟨rfl, hb2⟩
  obtain ⟨hc2, hfz2⟩ := bcell hb2
  have hy0 : w1.heap.size < w2.heap.size := grew hb2
  have hy1 : w.heap.size + 1 < w2.heap.size := by omega
  have hy2 : w.heap.size < w2.heap.size := by omega
  have hy3 : w.heap.size < w1.heap.size + 1 := by omega
  have hy4 : w.heap.size + 1 < w1.heap.size + 1 := by omega
  go_wp2_with (first
    | (go_at_call 22; (with_reducible refine (mod_any _ _ (by omega) (by omega) _).mono ?_); rintro e w' ⟨rfl, rfl⟩)
    | (go_at_call 40; (with_reducible refine (sign1_any _ _ _ (by omega) (by omega) (by omega)).mono ?_); rintro e w' ⟨rfl, rfl⟩))
  refine bodyPost_ret ?_ rfl ⟨rfl, (by repeat' (first | with_reducible exact Below.refl _ _ | with_reducible refine below_alloc ?_ _ | with_reducible refine below_drew ?_ | with_reducible refine below_drewN ?_ _ | with_reducible refine below_set ?_ (by first | exact Nat.le_refl _ | (simp <;> omega)) _ | with_reducible refine below_call ?_ (by assumption)))⟩
  simp [results, Try.results21, go_sem, cell_set, hc2, hc, hz, hz1, hy0, hy1, hy2, hy3, hy4]

set_option maxHeartbeats 1000000 in
theorem made_7 (n0 n1 n2 n3 n4 : Int) (hff : formOf (madeOp n0) = ⟨true, false, true, false, false, 0, 0⟩) (w : World) :
    Calls Try.prog 21 #[.agg #[.int .i64 n0, .int .i64 n1, .int .i64 n2, .int .i64 n3, .int .i64 n4]] w
      fun e w' => e = .returned (.agg #[.int .i64 (madeR n0 n1 n2 n3 n4).op, .int .i64 (madeR n0 n1 n2 n3 n4).d, .int .i64 (madeR n0 n1 n2 n3 n4).a, .int .i64 (madeR n0 n1 n2 n3 n4).b, .int .u32 (madeR n0 n1 n2 n3 n4).imm]) ∧ Below w.heap.size w w' := by
  have hi : madeR n0 n1 n2 n3 n4 = ⟨madeOp n0, 0, n2 % 16, 0, 0⟩ := by unfold madeR; rw [hff]; rfl
  have hO := of_any (madeOp n0)
  rw [hff] at hO
  rw [hi]
  simp only at hO
  have HO := Lib.hid hO
  clear hO hff hi
  have hlen : (opsTo 64).length = 39 := by decide +kernel
  have hidx : (ints (opsTo 64))[(n0 % 39).toNat]? = some (.int .i64 (madeOp n0)) := ints_at n0
  go_enter Try.func21, Try.ntmps21
  go_wp2_with fail
  refine (ops_any _).mono ?_
  rintro e w1 ⟨v, rfl, hown, hb1⟩
  rw [hlen] at hown
  obtain ⟨g, cap, rfl⟩ := own_form hown (by omega)
  have hcell := hown.cellAt (n0 % 39).toNat (by omega)
  rw [hidx] at hcell
  have hm0 : 0 ≤ n0 % 39 := by omega
  have hm1 : n0 % 39 < 39 := by omega
  clear hlen hidx hown
  obtain ⟨hc, hfz⟩ := bcell hb1
  have hz1 : w.heap.size + 1 < w1.heap.size := by have := hb1.size; simp at this; omega
  have hz : w.heap.size < w1.heap.size := by omega
  go_wp2_with (go_at_call 22; (with_reducible refine (mod_any _ _ (by omega) (by omega) _).mono ?_); rintro e w' ⟨rfl, rfl⟩)
  refine (HO.out _).mono ?_
  rintro e w2 ⟨rfl, hb2⟩
  obtain ⟨hc2, hfz2⟩ := bcell hb2
  have hy0 : w1.heap.size < w2.heap.size := grew hb2
  have hy1 : w.heap.size + 1 < w2.heap.size := by omega
  have hy2 : w.heap.size < w2.heap.size := by omega
  have hy3 : w.heap.size < w1.heap.size + 1 := by omega
  have hy4 : w.heap.size + 1 < w1.heap.size + 1 := by omega
  go_wp2_with (first
    | (go_at_call 22; (with_reducible refine (mod_any _ _ (by omega) (by omega) _).mono ?_); rintro e w' ⟨rfl, rfl⟩)
    | (go_at_call 40; (with_reducible refine (sign1_any _ _ _ (by omega) (by omega) (by omega)).mono ?_); rintro e w' ⟨rfl, rfl⟩))
  refine bodyPost_ret ?_ rfl ⟨rfl, (by repeat' (first | with_reducible exact Below.refl _ _ | with_reducible refine below_alloc ?_ _ | with_reducible refine below_drew ?_ | with_reducible refine below_drewN ?_ _ | with_reducible refine below_set ?_ (by first | exact Nat.le_refl _ | (simp <;> omega)) _ | with_reducible refine below_call ?_ (by assumption)))⟩
  simp [results, Try.results21, go_sem, cell_set, hc2, hc, hz, hz1, hy0, hy1, hy2, hy3, hy4]

set_option maxHeartbeats 1000000 in
theorem made_8 (n0 n1 n2 n3 n4 : Int) (hff : formOf (madeOp n0) = ⟨true, true, false, false, false, 18, 3⟩) (w : World) :
    Calls Try.prog 21 #[.agg #[.int .i64 n0, .int .i64 n1, .int .i64 n2, .int .i64 n3, .int .i64 n4]] w
      fun e w' => e = .returned (.agg #[.int .i64 (madeR n0 n1 n2 n3 n4).op, .int .i64 (madeR n0 n1 n2 n3 n4).d, .int .i64 (madeR n0 n1 n2 n3 n4).a, .int .i64 (madeR n0 n1 n2 n3 n4).b, .int .u32 (madeR n0 n1 n2 n3 n4).imm]) ∧ Below w.heap.size w w' := by
  have hi : madeR n0 n1 n2 n3 n4 = ⟨madeOp n0, n1 % 16, 0, 0, n4 % 4⟩ := by unfold madeR; rw [hff]; rfl
  have hO := of_any (madeOp n0)
  rw [hff] at hO
  rw [hi]
  simp only at hO
  have HO := Lib.hid hO
  clear hO hff hi
  have hlen : (opsTo 64).length = 39 := by decide +kernel
  have hidx : (ints (opsTo 64))[(n0 % 39).toNat]? = some (.int .i64 (madeOp n0)) := ints_at n0
  go_enter Try.func21, Try.ntmps21
  go_wp2_with fail
  refine (ops_any _).mono ?_
  rintro e w1 ⟨v, rfl, hown, hb1⟩
  rw [hlen] at hown
  obtain ⟨g, cap, rfl⟩ := own_form hown (by omega)
  have hcell := hown.cellAt (n0 % 39).toNat (by omega)
  rw [hidx] at hcell
  have hm0 : 0 ≤ n0 % 39 := by omega
  have hm1 : n0 % 39 < 39 := by omega
  clear hlen hidx hown
  obtain ⟨hc, hfz⟩ := bcell hb1
  have hz1 : w.heap.size + 1 < w1.heap.size := by have := hb1.size; simp at this; omega
  have hz : w.heap.size < w1.heap.size := by omega
  go_wp2_with (go_at_call 22; (with_reducible refine (mod_any _ _ (by omega) (by omega) _).mono ?_); rintro e w' ⟨rfl, rfl⟩)
  refine (HO.out _).mono ?_
  rintro e w2 ⟨rfl, hb2⟩
  obtain ⟨hc2, hfz2⟩ := bcell hb2
  have hy0 : w1.heap.size < w2.heap.size := grew hb2
  have hy1 : w.heap.size + 1 < w2.heap.size := by omega
  have hy2 : w.heap.size < w2.heap.size := by omega
  have hy3 : w.heap.size < w1.heap.size + 1 := by omega
  have hy4 : w.heap.size + 1 < w1.heap.size + 1 := by omega
  go_wp2_with (first
    | (go_at_call 22; (with_reducible refine (mod_any _ _ (by omega) (by omega) _).mono ?_); rintro e w' ⟨rfl, rfl⟩)
    | (go_at_call 40; (with_reducible refine (sign1_any _ _ _ (by omega) (by omega) (by omega)).mono ?_); rintro e w' ⟨rfl, rfl⟩))
  refine bodyPost_ret ?_ rfl ⟨rfl, (by repeat' (first | with_reducible exact Below.refl _ _ | with_reducible refine below_alloc ?_ _ | with_reducible refine below_drew ?_ | with_reducible refine below_drewN ?_ _ | with_reducible refine below_set ?_ (by first | exact Nat.le_refl _ | (simp <;> omega)) _ | with_reducible refine below_call ?_ (by assumption)))⟩
  simp [results, Try.results21, go_sem, cell_set, hc2, hc, hz, hz1, hy0, hy1, hy2, hy3, hy4]

set_option maxHeartbeats 1000000 in
theorem made_9 (n0 n1 n2 n3 n4 : Int) (hff : formOf (madeOp n0) = ⟨true, false, true, false, false, 18, 4⟩) (w : World) :
    Calls Try.prog 21 #[.agg #[.int .i64 n0, .int .i64 n1, .int .i64 n2, .int .i64 n3, .int .i64 n4]] w
      fun e w' => e = .returned (.agg #[.int .i64 (madeR n0 n1 n2 n3 n4).op, .int .i64 (madeR n0 n1 n2 n3 n4).d, .int .i64 (madeR n0 n1 n2 n3 n4).a, .int .i64 (madeR n0 n1 n2 n3 n4).b, .int .u32 (madeR n0 n1 n2 n3 n4).imm]) ∧ Below w.heap.size w w' := by
  have hi : madeR n0 n1 n2 n3 n4 = ⟨madeOp n0, 0, n2 % 16, 0, n4 % 5⟩ := by unfold madeR; rw [hff]; rfl
  have hO := of_any (madeOp n0)
  rw [hff] at hO
  rw [hi]
  simp only at hO
  have HO := Lib.hid hO
  clear hO hff hi
  have hlen : (opsTo 64).length = 39 := by decide +kernel
  have hidx : (ints (opsTo 64))[(n0 % 39).toNat]? = some (.int .i64 (madeOp n0)) := ints_at n0
  go_enter Try.func21, Try.ntmps21
  go_wp2_with fail
  refine (ops_any _).mono ?_
  rintro e w1 ⟨v, rfl, hown, hb1⟩
  rw [hlen] at hown
  obtain ⟨g, cap, rfl⟩ := own_form hown (by omega)
  have hcell := hown.cellAt (n0 % 39).toNat (by omega)
  rw [hidx] at hcell
  have hm0 : 0 ≤ n0 % 39 := by omega
  have hm1 : n0 % 39 < 39 := by omega
  clear hlen hidx hown
  obtain ⟨hc, hfz⟩ := bcell hb1
  have hz1 : w.heap.size + 1 < w1.heap.size := by have := hb1.size; simp at this; omega
  have hz : w.heap.size < w1.heap.size := by omega
  go_wp2_with (go_at_call 22; (with_reducible refine (mod_any _ _ (by omega) (by omega) _).mono ?_); rintro e w' ⟨rfl, rfl⟩)
  refine (HO.out _).mono ?_
  rintro e w2 ⟨rfl, hb2⟩
  obtain ⟨hc2, hfz2⟩ := bcell hb2
  have hy0 : w1.heap.size < w2.heap.size := grew hb2
  have hy1 : w.heap.size + 1 < w2.heap.size := by omega
  have hy2 : w.heap.size < w2.heap.size := by omega
  have hy3 : w.heap.size < w1.heap.size + 1 := by omega
  have hy4 : w.heap.size + 1 < w1.heap.size + 1 := by omega
  go_wp2_with (first
    | (go_at_call 22; (with_reducible refine (mod_any _ _ (by omega) (by omega) _).mono ?_); rintro e w' ⟨rfl, rfl⟩)
    | (go_at_call 40; (with_reducible refine (sign1_any _ _ _ (by omega) (by omega) (by omega)).mono ?_); rintro e w' ⟨rfl, rfl⟩))
  refine bodyPost_ret ?_ rfl ⟨rfl, (by repeat' (first | with_reducible exact Below.refl _ _ | with_reducible refine below_alloc ?_ _ | with_reducible refine below_drew ?_ | with_reducible refine below_drewN ?_ _ | with_reducible refine below_set ?_ (by first | exact Nat.le_refl _ | (simp <;> omega)) _ | with_reducible refine below_call ?_ (by assumption)))⟩
  simp [results, Try.results21, go_sem, cell_set, hc2, hc, hz, hz1, hy0, hy1, hy2, hy3, hy4]

theorem made_any (n0 n1 n2 n3 n4 : Int) (w : World) :
    Calls Try.prog 21 #[.agg #[.int .i64 n0, .int .i64 n1, .int .i64 n2, .int .i64 n3, .int .i64 n4]] w
      fun e w' => e = .returned (.agg #[.int .i64 (madeR n0 n1 n2 n3 n4).op, .int .i64 (madeR n0 n1 n2 n3 n4).d, .int .i64 (madeR n0 n1 n2 n3 n4).a, .int .i64 (madeR n0 n1 n2 n3 n4).b, .int .u32 (madeR n0 n1 n2 n3 n4).imm]) ∧ Below w.heap.size w w' := by
  rcases formOf_cases (madeOp n0) with h | h | h | h | h | h | h | h | h | h | h
  · exact made_0 n0 n1 n2 n3 n4 h w
  · exact made_1 n0 n1 n2 n3 n4 h w
  · exact made_2 n0 n1 n2 n3 n4 h w
  · exact made_3 n0 n1 n2 n3 n4 h w
  · exact made_4 n0 n1 n2 n3 n4 h w
  · exact made_5 n0 n1 n2 n3 n4 h w
  · exact made_6 n0 n1 n2 n3 n4 h w
  · exact made_7 n0 n1 n2 n3 n4 h w
  · exact made_8 n0 n1 n2 n3 n4 h w
  · exact made_9 n0 n1 n2 n3 n4 h w
  · have := madeOp_is n0
    rw [h] at this
    cases this

end Go.Proofs.Ytdoanneelnelbaa
