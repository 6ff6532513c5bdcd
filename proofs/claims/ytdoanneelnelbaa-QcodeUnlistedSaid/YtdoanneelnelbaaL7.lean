/-
  The walk of the law QcodeWords: it answers true. Condition: the word is a word.
-/
import Derived.Test.YtdoanneelnelbaaV2
import Derived.Test.YtdoanneelnelbaaM
import Derived.Test.YtdoanneelnelbaaL5
namespace Go.Proofs.Ytdoanneelnelbaa
set_option linter.unusedSimpArgs false
set_option linter.unusedVariables false
open Go.RowKit

attribute [local go_sem] cell_set

theorem dec_no (V : Int) (h : decOk V = false) : decV V = ⟨0, 0, 0, 0, 0⟩ ∧ decE V = 12 := by
  unfold decV decE
  rw [h]
  exact ⟨rfl, rfl⟩
theorem dec_yes (V : Int) (h : decOk V = true) : decV V = decI V ∧ decE V = 0 := by
  unfold decV decE
  rw [h]
  exact ⟨rfl, rfl⟩
theorem decI_imm (V : Int) : 0 ≤ (decI V).imm ∧ (decI V).imm < 4294967296 := by
  unfold decI
  rcases formOf_cases (V / 67108864) with h | h | h | h | h | h | h | h | h | h | h
  all_goals
    rw [h]
    simp only [if_true, Bool.false_eq_true, if_false, pw0, pw18, pw22]
    first | omega | exact sgn_bd _ _ (.inl rfl) | exact sgn_bd _ _ (.inr rfl)

set_option maxHeartbeats 1000000 in
theorem words_walk (w0 n0 n1 n2 n3 n4 bit : Int) (h0 : 0 ≤ w0) (h1 : w0 < 4294967296) (w : World) :
    Calls Try.prog 7 #[.int .u32 w0, .agg #[.int .i64 n0, .int .i64 n1, .int .i64 n2, .int .i64 n3, .int .i64 n4], .int .i64 bit] w fun e w' => e = .returned (.bool true) ∧ Below w.heap.size w w' := by
  have hM := madeR_imm n0 n1 n2 n3 n4
  have hG := made_any n0 n1 n2 n3 n4
  have hE := fun w => encRef_any (madeR n0 n1 n2 n3 n4) w hM.1 hM.2
  have hW := encW_bd (madeR n0 n1 n2 n3 n4) hM.1 hM.2
  generalize encW (madeR n0 n1 n2 n3 n4) = W at *
  generalize encE (madeR n0 n1 n2 n3 n4) = E at *
  generalize madeR n0 n1 n2 n3 n4 = M at *
  have HG := Lib.hid hG
  have HE := Lib.hid hE
  clear hG hE
  go_enter Try.func7, Try.ntmps7
  go_wp2_with fail
  refine (sanity_any _).mono ?_
  rintro e w1 ⟨rfl, hb1⟩
  obtain ⟨hc1, hf1⟩ := bcell hb1
  have hz1 := grew hb1
  go_wp2_with fail
  refine (HG.out _).mono ?_
  rintro e w2 ⟨rfl, hb2⟩
  go_wp2_with fail
  refine (HE.out _).mono ?_
  rintro e w3 ⟨rfl, hb3⟩
  go_wp2_with fail
  refine (mod_any _ _ (by omega) (by omega) _).mono ?_
  rintro e w3' ⟨rfl, rfl⟩
  have hm : 0 ≤ bit % 32 ∧ bit % 32 < 32 := by omega
  clear hc1 hf1
  have hX := xor_bd W (2 ^ (bit % 32).toNat % 4294967296) hW.1 hW.2 (by omega) (by omega)
  have hb : Below w.heap.size w w3 := (by repeat' (first | with_reducible exact Below.refl _ _ | with_reducible refine below_alloc ?_ _ | with_reducible refine below_drew ?_ | with_reducible refine below_drewN ?_ _ | with_reducible refine below_set ?_ (by first | exact Nat.le_refl _ | (simp <;> omega)) _ | with_reducible refine below_call ?_ (by assumption)))
  generalize hgx : bits BinOp.xor IntKind.u32 W (2 ^ (bit % 32).toNat % 4294967296) = X at *
  have Hgx := Lib.hid hgx
  clear hgx
  have hr := row_new w3 44 [w0, X]
  simp only [List.map_cons, List.map_nil, List.length_cons, List.length_nil] at hr
  have hq : ∀ k, k < 2 → 0 ≤ ([w0, X].getD k 0) ∧ ([w0, X].getD k 0) < 4294967296 := by
    intro k hk
    have h3 : k = 0 ∨ k = 1 := by omega
    rcases h3 with rfl | rfl
    · exact ⟨h0, h1⟩
    · exact hX
  have hbw := below_alloc hb (.cells #[.int .u32 w0, .int .u32 X] 44)
  clear hb hb1 hb2 hb3
  have hxor := Hgx.out
  go_wp2_with fail
  clear hxor Hgx
  go_loopw [11] (fun i wr => ∃ k : Nat, k ≤ 2 ∧ i = .int .i64 k ∧ Row wr w3.heap.size [w0, X] ∧ Below w.heap.size w wr) (fun i _ => 2 - (intOf i).toNat)
  case atStart => exact ⟨0, by omega, rfl, hr, hbw⟩
  case round =>
    clear hr hbw
    obtain ⟨k, hk, rfl, hr, hb⟩ := hrel
    by_cases hlt : k < 2
    · have hk0 : (0 : Int) ≤ (k : Int) := by omega
      have hk3 : (k : Int) < 2 := by omega
      obtain ⟨q0, q1⟩ := hq k hlt
      have c0 := hr k hlt
      generalize [w0, X].getD k 0 = V at q0 q1 c0
      have hD := fun w => dec_any V q0 q1 w
      cases hok : decOk V
      · rw [(dec_no V hok).1, (dec_no V hok).2] at hD
        have HD := Lib.hid hD
        clear hD hok
        go_wp2_with fail
        refine (HD.out _).mono ?_
        rintro e v1 ⟨rfl, hbv1⟩
        have hbx : Below wr.heap.size wr v1 := (by repeat' (first | with_reducible exact Below.refl _ _ | with_reducible refine below_alloc ?_ _ | with_reducible refine below_drew ?_ | with_reducible refine below_drewN ?_ _ | with_reducible refine below_set ?_ (by first | exact Nat.le_refl _ | (simp <;> omega)) _ | with_reducible refine below_call ?_ (by assumption)))
        have hrx := below_alloc hbx (.cells #[.int .i64 0, .int .i64 0, .int .i64 0, .int .i64 0, .int .u32 0] 27)
        have hr5 := row_keep hrx hr
        have hb5 := below_call hb hrx
        clear hb hr hrx c0 hbx hbv1
        go_wp2
        go_roundw
        case rel => exact ⟨k + 1, by omega, by go_num, hr5, hb5⟩
        case measure => simp [intOf]; omega
      · rw [(dec_yes V hok).1, (dec_yes V hok).2] at hD
        obtain ⟨hv, hw⟩ := decOk_word V hok
        have hi := decI_imm V
        have hE := fun w => enc_any (decI V) w hi.1 hi.2
        have hV := fun w => valid_any (decI V) w hi.1 hi.2
        rw [encE_of hv, hw] at hE
        rw [hv] at hV
        generalize decI V = I at *
        have HD := Lib.hid hD
        have HE := Lib.hid hE
        have HV := Lib.hid hV
        clear hD hE hV hv hw hok
        go_wp2_with fail
        refine (HD.out _).mono ?_
        rintro e v1 ⟨rfl, hbv1⟩
        have d0 := cell_keep hbv1 c0
        have hlt3 : w3.heap.size < v1.heap.size := World.block_lt_of_cell? v1 _ d0
        go_wp2_with fail
        refine (HE.out _).mono ?_
        rintro e v2 ⟨rfl, hbv2⟩
        obtain ⟨hc2, hf2⟩ := bcell hbv2
        have hy := grew hbv2
        go_wp2_with fail
        refine (HV.out _).mono ?_
        rintro e v3 ⟨rfl, hbv3⟩
        obtain ⟨hc3, hf3⟩ := bcell hbv3
        have hy3 : v1.heap.size < v3.heap.size := Nat.lt_of_lt_of_le hy hbv3.size
        have hbx : Below wr.heap.size wr v3 := (by repeat' (first | with_reducible exact Below.refl _ _ | with_reducible refine below_alloc ?_ _ | with_reducible refine below_drew ?_ | with_reducible refine below_drewN ?_ _ | with_reducible refine below_set ?_ (by first | exact Nat.le_refl _ | (simp <;> omega)) _ | with_reducible refine below_call ?_ (by assumption)))
        have d3 := cell_keep hbx c0
        have hr5 := row_keep hbx hr
        have hb5 := below_call hb hbx
        clear hb hr hbx hbv1 hbv2 hbv3 c0 d0 hc2 hc3 hf2 hf3
        go_wp2
        go_roundw
        case rel => exact ⟨k + 1, by omega, by go_num, hr5, hb5⟩
        case measure => simp [intOf]; omega
    · go_wp2
      go_ret
      exact ⟨rfl, hb⟩

end Go.Proofs.Ytdoanneelnelbaa
