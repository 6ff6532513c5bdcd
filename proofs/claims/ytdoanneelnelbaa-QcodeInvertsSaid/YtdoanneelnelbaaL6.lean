/-
  The walk of the law QcodeInverts: it answers true. No condition.
-/
import Derived.Test.YtdoanneelnelbaaV2
import Derived.Test.YtdoanneelnelbaaM
namespace Go.Proofs.Ytdoanneelnelbaa
set_option linter.unusedSimpArgs false
set_option linter.unusedVariables false
open Go.RowKit

attribute [local go_sem] cell_set

set_option maxHeartbeats 1000000 in
theorem inverts_walk (n0 n1 n2 n3 n4 : Int) (w : World) :
    Calls Try.prog 6 #[.agg #[.int .i64 n0, .int .i64 n1, .int .i64 n2, .int .i64 n3, .int .i64 n4]] w fun e w' => e = .returned (.bool true) ∧ Below w.heap.size w w' := by
  have hM := madeR_imm n0 n1 n2 n3 n4
  have hv := made_valid n0 n1 n2 n3 n4
  have hG := made_any n0 n1 n2 n3 n4
  have hE := fun w => enc_any (madeR n0 n1 n2 n3 n4) w hM.1 hM.2
  have hV := fun w => valid_any (madeR n0 n1 n2 n3 n4) w hM.1 hM.2
  rw [hv] at hV
  rw [encE_of hv, encW_of hv] at hE
  obtain ⟨-, hw0, hw1⟩ := dec_enc _ hv hM.1 hM.2
  have hD := fun w => dec_any (wordR (madeR n0 n1 n2 n3 n4)) hw0 hw1 w
  rw [(decV_enc _ hv hM.1 hM.2).1, (decV_enc _ hv hM.1 hM.2).2] at hD
  generalize wordR (madeR n0 n1 n2 n3 n4) = W at *
  generalize madeR n0 n1 n2 n3 n4 = M at *
  have HG := Lib.hid hG
  have HE := Lib.hid hE
  have HV := Lib.hid hV
  have HD := Lib.hid hD
  clear hG hE hV hD hv
  go_enter Try.func6, Try.ntmps6
  go_wp2_with fail
  refine (sanity_any _).mono ?_
  rintro e w1 ⟨rfl, hb1⟩
  obtain ⟨hc1, hf1⟩ := bcell hb1
  have hz1 := grew hb1
  go_wp2_with fail
  refine (HG.out _).mono ?_
  rintro e w2 ⟨rfl, hb2⟩
  clear hc1 hf1
  go_wp2_with fail
  refine (HE.out _).mono ?_
  rintro e w3 ⟨rfl, hb3⟩
  obtain ⟨hc3, hf3⟩ := bcell hb3
  have hz3 := grew hb3
  go_wp2_with fail
  refine (HD.out _).mono ?_
  rintro e w4 ⟨rfl, hb4⟩
  obtain ⟨hc4, hf4⟩ := bcell hb4
  have hz4 : w2.heap.size < w4.heap.size := Nat.lt_of_lt_of_le hz3 hb4.size
  go_wp2_with (go_at_call 19; (with_reducible refine (HV.out _).mono ?_); rintro e w5 ⟨rfl, hb5⟩)
  go_ret
  exact ⟨rfl, (by repeat' (first | with_reducible exact Below.refl _ _ | with_reducible refine below_alloc ?_ _ | with_reducible refine below_drew ?_ | with_reducible refine below_drewN ?_ _ | with_reducible refine below_set ?_ (by first | exact Nat.le_refl _ | (simp <;> omega)) _ | with_reducible refine below_call ?_ (by assumption)))⟩

end Go.Proofs.Ytdoanneelnelbaa
