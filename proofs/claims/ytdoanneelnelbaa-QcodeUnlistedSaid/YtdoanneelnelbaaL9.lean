/-
  The walk of the law QcodeUnlisted: it answers true. Condition: the word is a word.
-/
import Derived.Test.YtdoanneelnelbaaL7
namespace Go.Proofs.Ytdoanneelnelbaa
set_option linter.unusedSimpArgs false
set_option linter.unusedVariables false
open Go.RowKit

attribute [local go_sem] cell_set

theorem unlisted_no (op V : Int) (h : (formOf op).is = false) (hV : V / 67108864 = op) : decOk V = false := by
  cases hok : decOk V
  · rfl
  · have hv := (decOk_word V hok).1
    have := (validR_facts _ hv).is
    rw [dec_op, hV, h] at this
    cases this

set_option maxHeartbeats 1000000 in
theorem unlisted_walk (w0 : Int) (h0 : 0 ≤ w0) (h1 : w0 < 4294967296) (w : World) :
    Calls Try.prog 9 #[.int .u32 w0] w fun e w' => e = .returned (.bool true) ∧ Below w.heap.size w w' := by
  go_enter Try.func9, Try.ntmps9
  go_wp2_with fail
  refine (sanity_any _).mono ?_
  rintro e w1 ⟨rfl, hb1⟩
  go_wp2_with fail
  go_loopw [4] (fun i wr => ∃ k : Nat, k ≤ 64 ∧ i = .int .i64 k ∧ Below w.heap.size w wr) (fun i _ => 64 - (intOf i).toNat)
  case atStart => exact ⟨0, by omega, rfl, hb1⟩
  case round =>
    clear hb1
    obtain ⟨k, hk, rfl, hb⟩ := hrel
    by_cases hlt : k < 64
    · have hk0 : (0 : Int) ≤ (k : Int) := by omega
      have hk3 : (k : Int) < 64 := by omega
      have hD := fun w => dec_any ((k : Int) * 67108864 + w0 % 67108864) (by omega) (by omega) w
      have hO := of_any (k : Int)
      have hfld := field47_0
      have hun := unlisted_no (k : Int) ((k : Int) * 67108864 + w0 % 67108864)
      have hop : (decI ((k : Int) * 67108864 + w0 % 67108864)).op = (k : Int) := by rw [dec_op]; omega
      cases his : (formOf (k : Int)).is
      all_goals
        cases hok : decOk ((k : Int) * 67108864 + w0 % 67108864)
      case true.false | false.false =>
        rw [(dec_no _ hok).1, (dec_no _ hok).2] at hD
        rw [his] at hO
        have HD := Lib.hid hD
        have HO := Lib.hid hO
        clear hD hO hun hop his hok
        go_wp2_with fail
        refine (HD.out _).mono ?_
        rintro e v1 ⟨rfl, hbv1⟩
        go_wp2_with fail
        refine (HO.out _).mono ?_
        rintro e v2 ⟨rfl, hbv2⟩
        have hb5 : Below w.heap.size w v2 := (by repeat' (first | with_reducible exact Below.refl _ _ | with_reducible refine below_alloc ?_ _ | with_reducible refine below_drew ?_ | with_reducible refine below_drewN ?_ _ | with_reducible refine below_set ?_ (by first | exact Nat.le_refl _ | (simp <;> omega)) _ | with_reducible refine below_call ?_ (by assumption)))
        clear hb hbv1 hbv2
        go_wp2
        go_roundw
        case rel => exact ⟨k + 1, by omega, by go_num, hb5⟩
        case measure => simp [intOf]; omega
      case false.true =>
        rw [hun his (by omega)] at hok
        cases hok
      case true.true =>
        rw [(dec_yes _ hok).1, (dec_yes _ hok).2, hop] at hD
        rw [his] at hO
        generalize (decI ((k : Int) * 67108864 + w0 % 67108864)).d = x1 at *
        generalize (decI ((k : Int) * 67108864 + w0 % 67108864)).a = x2 at *
        generalize (decI ((k : Int) * 67108864 + w0 % 67108864)).b = x3 at *
        generalize (decI ((k : Int) * 67108864 + w0 % 67108864)).imm = x4 at *
        have HD := Lib.hid hD
        have HO := Lib.hid hO
        clear hD hO hun hop his hok
        go_wp2_with fail
        refine (HD.out _).mono ?_
        rintro e v1 ⟨rfl, hbv1⟩
        go_wp2_with fail
        refine (HO.out _).mono ?_
        rintro e v2 ⟨rfl, hbv2⟩
        obtain ⟨hc2, hf2⟩ := bcell hbv2
        have hy := grew hbv2
        have hb5 : Below w.heap.size w v2 := (by repeat' (first | with_reducible exact Below.refl _ _ | with_reducible refine below_alloc ?_ _ | with_reducible refine below_drew ?_ | with_reducible refine below_drewN ?_ _ | with_reducible refine below_set ?_ (by first | exact Nat.le_refl _ | (simp <;> omega)) _ | with_reducible refine below_call ?_ (by assumption)))
        clear hb hbv1 hbv2
        go_wp2
        go_roundw
        case rel => exact ⟨k + 1, by omega, by go_num, hb5⟩
        case measure => simp [intOf]; omega
    · go_wp2
      go_ret
      exact ⟨rfl, hb⟩

end Go.Proofs.Ytdoanneelnelbaa
