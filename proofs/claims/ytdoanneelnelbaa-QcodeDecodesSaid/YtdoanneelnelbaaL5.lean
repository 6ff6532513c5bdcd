/-
  The walk of the law QcodeDecodes: it answers true. Condition: the word is a word.
-/
import Derived.Test.YtdoanneelnelbaaV2
import Derived.Test.YtdoanneelnelbaaM
namespace Go.Proofs.Ytdoanneelnelbaa
set_option linter.unusedSimpArgs false
set_option linter.unusedVariables false
open Go.RowKit

attribute [local go_sem] cell_set

theorem xor_bd (a b : Int) (h0 : 0 ≤ a) (h1 : a < 4294967296) (h2 : 0 ≤ b) (h3 : b < 4294967296) : 0 ≤ bits .xor .u32 a b ∧ bits .xor .u32 a b < 4294967296 := by
  rw [u32_xor a b h0 h1 h2 h3]
  have : a.toNat ^^^ b.toNat < 2 ^ 32 := Nat.xor_lt_two_pow (by omega) (by omega)
  omega

/-- A row of words in a block. -/
def Row (x : World) (b : Nat) (R : List Int) : Prop := ∀ k, k < R.length → x.cell? ⟨b, k, none⟩ = some (.int .u32 (R.getD k 0))
theorem row_new (x : World) (t : TypeId) (R : List Int) : Row (x.alloc (.cells (R.map (Value.int .u32)).toArray t)) x.heap.size R := fun k hk => by
  have hb := heap_alloc_new' x (.cells (R.map (Value.int .u32)).toArray t)
  unfold World.cell?
  rw [hb]
  simp [hk]
theorem row_keep {x w2 : World} (hb : Below x.heap.size x w2) {b : Nat} {R : List Int} (h : Row x b R) : Row w2 b R := fun k hk => cell_keep hb (h k hk)

set_option maxHeartbeats 1000000 in
theorem decodes_walk (w0 n0 n1 n2 n3 n4 bit : Int) (h0 : 0 ≤ w0) (h1 : w0 < 4294967296) (w : World) :
    Calls Try.prog 5 #[.int .u32 w0, .agg #[.int .i64 n0, .int .i64 n1, .int .i64 n2, .int .i64 n3, .int .i64 n4], .int .i64 bit] w fun e w' => e = .returned (.bool true) ∧ Below w.heap.size w w' := by
  have hM := madeR_imm n0 n1 n2 n3 n4
  have hG := made_any n0 n1 n2 n3 n4
  have hE := fun w => encRef_any (madeR n0 n1 n2 n3 n4) w hM.1 hM.2
  have hW := encW_bd (madeR n0 n1 n2 n3 n4) hM.1 hM.2
  generalize encW (madeR n0 n1 n2 n3 n4) = W at *
  generalize encE (madeR n0 n1 n2 n3 n4) = E at *
  generalize madeR n0 n1 n2 n3 n4 = M at *
  have HG := Lib.hid hG
  have HE := Lib.hid hE
  clear hG hE
  go_enter Try.func5, Try.ntmps5
  go_wp2_with fail
  refine (sanity_any _).mono ?_
  rintro e w1 ⟨rfl, hb1⟩
  obtain ⟨hc1, hf1⟩ := bcell hb1
  have hz1 := grew hb1
  go_wp2_with fail
  refine (HG.out _).mono ?_
  rintro e w2 ⟨rfl, hb2⟩
  go_wp2_with fail
  refine (HE.out _).mono ?_
  rintro e w3 ⟨rfl, hb3⟩
  go_wp2_with fail
  refine (mod_any _ _ (by omega) (by omega) _).mono ?_
  rintro e w3' ⟨rfl, rfl⟩
  have hm : 0 ≤ bit % 32 ∧ bit % 32 < 32 := by omega
  clear hc1 hf1
  have hX := xor_bd W (2 ^ (bit % 32).toNat % 4294967296) hW.1 hW.2 (by omega) (by omega)
  have hb : Below w.heap.size w w3 := (by repeat' (first | with_reducible exact Below.refl _ _ | with_reducible refine below_alloc ?_ _ | with_reducible refine below_drew ?_ | with_reducible refine below_drewN ?_ _ | with_reducible refine below_set ?_ (by first | exact Nat.le_refl _ | (simp <;> omega)) _ | with_reducible refine below_call ?_ (by assumption)))
  generalize hgx : bits BinOp.xor IntKind.u32 W (2 ^ (bit % 32).toNat % 4294967296) = X at *
  have Hgx := Lib.hid hgx
  clear hgx
  have hr := row_new w3 39 [w0, W, X]
  simp only [List.map_cons, List.map_nil, List.length_cons, List.length_nil] at hr
  have hq : ∀ k, k < 3 → 0 ≤ ([w0, W, X].getD k 0) ∧ ([w0, W, X].getD k 0) < 4294967296 := by
    intro k hk
    have h3 : k = 0 ∨ k = 1 ∨ k = 2 := by omega
    rcases h3 with rfl | rfl | rfl
    · exact ⟨h0, h1⟩
    · exact hW
    · exact hX
  have hbw := below_alloc hb (.cells #[.int .u32 w0, .int .u32 W, .int .u32 X] 39)
  clear hb hb1 hb2 hb3
  have hxor := Hgx.out
  go_wp2_with fail
  clear hxor Hgx
  go_loopw [11] (fun i wr => ∃ k : Nat, k ≤ 3 ∧ i = .int .i64 k ∧ Row wr w3.heap.size [w0, W, X] ∧ Below w.heap.size w wr) (fun i _ => 3 - (intOf i).toNat)
  case atStart => exact ⟨0, by omega, rfl, hr, hbw⟩
  case round =>
    clear hr hbw
    obtain ⟨k, hk, rfl, hr, hb⟩ := hrel
    by_cases hlt : k < 3
    · have hk0 : (0 : Int) ≤ (k : Int) := by omega
      have hk3 : (k : Int) < 3 := by omega
      obtain ⟨q0, q1⟩ := hq k hlt
      have c0 := hr k hlt
      generalize [w0, W, X].getD k 0 = V at q0 q1 c0
      go_wp2_with fail
      refine (dec_any V q0 q1 _).mono ?_
      rintro e v1 ⟨rfl, hbv1⟩
      have d0 := cell_keep hbv1 c0
      have hlt3 : w3.heap.size < v1.heap.size := World.block_lt_of_cell? v1 _ d0
      clear c0
      go_wp2_with fail
      refine (decRef_any V q0 q1 _).mono ?_
      rintro e v2 ⟨rfl, hbv2⟩
      obtain ⟨hc2, hf2⟩ := bcell hbv2
      have hy := grew hbv2
      have hbx : Below wr.heap.size wr v2 := (by repeat' (first | with_reducible exact Below.refl _ _ | with_reducible refine below_alloc ?_ _ | with_reducible refine below_drew ?_ | with_reducible refine below_drewN ?_ _ | with_reducible refine below_set ?_ (by first | exact Nat.le_refl _ | (simp <;> omega)) _ | with_reducible refine below_call ?_ (by assumption)))
      have hrx := below_alloc hbx (.cells #[.int .i64 (decV V).op, .int .i64 (decV V).d, .int .i64 (decV V).a, .int .i64 (decV V).b, .int .u32 (decV V).imm] 27)
      have hr5 := row_keep hrx hr
      have hb5 := below_call hb hrx
      clear hb hr hrx d0 hbx hbv1 hbv2
      go_wp2
      go_roundw
      case rel => exact ⟨k + 1, by omega, by go_num, hr5, hb5⟩
      case measure => simp [intOf]; omega
    · go_wp2
      go_ret
      exact ⟨rfl, hb⟩

end Go.Proofs.Ytdoanneelnelbaa
