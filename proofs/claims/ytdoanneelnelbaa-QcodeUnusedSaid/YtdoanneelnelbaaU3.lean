/-
  What Encode computes. Condition: the immediate is a word.
-/
import Derived.Test.YtdoanneelnelbaaU2
import Derived.Deep.RegionHeld3
import Derived.Deep.DeepCutAuto
namespace Go.Proofs.Ytdoanneelnelbaa
set_option linter.unusedSimpArgs false
set_option linter.unusedVariables false
open Go.RowKit

theorem cell_keep {x w2 : World} (hb : Below x.heap.size x w2) {b o : Nat} {v : Value} (h : x.cell? ⟨b, o, none⟩ = some v) : w2.cell? ⟨b, o, none⟩ = some v := (hb.cell (World.block_lt_of_cell? x _ h)).trans h
theorem pw0 : pw 0 = 1 := rfl
theorem ret_tup2 {k l : IntKind} {a b c d : Int} (h : a = b) (h2 : c = d) : Ending.returned (.tuple #[.int k a, .int l c]) = .returned (.tuple #[.int k b, .int l d]) := by rw [h, h2]
theorem or_join (x y : Int) (i : Nat) (hx0 : 0 ≤ x) (hx1 : x < 4294967296) (hx : x % 2 ^ i = 0) (hy0 : 0 ≤ y) (hy1 : y < 4294967296) (hy : y < 2 ^ i) : bits .or .u32 x y = x + y := by
  obtain ⟨a, rfl⟩ := Int.eq_ofNat_of_zero_le hx0
  obtain ⟨b, rfl⟩ := Int.eq_ofNat_of_zero_le hy0
  rw [u32_or _ _ hx0 hx1 hy0 hy1]
  simp only [Int.toNat_natCast]
  rw [nat_join i a b (by exact_mod_cast hx) (by exact_mod_cast hy)]
  omega
theorem mask0 : IntKind.u32.wrap (IntKind.u32.wrap 1 - 1) = 0 := by decide
theorem mask18 : IntKind.u32.wrap (IntKind.u32.wrap 262144 - 1) = 262143 := by decide
theorem mask22 : IntKind.u32.wrap (IntKind.u32.wrap 4194304 - 1) = 4194303 := by decide
theorem and0 (n : Int) (h0 : 0 ≤ n) (h1 : n < 4294967296) : bits .and .u32 n 0 = 0 := by
  rw [u32_and _ _ h0 h1 (by omega) (by omega)]; simp
theorem and18 (n : Int) (h0 : 0 ≤ n) (h1 : n < 4294967296) : bits .and .u32 n 262143 = n % 262144 := by
  obtain ⟨a, rfl⟩ := Int.eq_ofNat_of_zero_le h0
  rw [u32_and _ _ h0 h1 (by omega) (by omega)]
  simp only [Int.toNat_natCast, show (262143 : Int).toNat = 262143 from rfl]
  rw [nat_mask18]; omega
theorem and22 (n : Int) (h0 : 0 ≤ n) (h1 : n < 4294967296) : bits .and .u32 n 4194303 = n % 4194304 := by
  obtain ⟨a, rfl⟩ := Int.eq_ofNat_of_zero_le h0
  rw [u32_and _ _ h0 h1 (by omega) (by omega)]
  simp only [Int.toNat_natCast, show (4194303 : Int).toNat = 4194303 from rfl]
  rw [nat_mask22]; omega
theorem field47_5 (v0 v1 v2 v3 v4 v6 : Value) (k : IntKind) (n : Int) (w : World) : (Instr.field 47 (.agg #[v0, v1, v2, v3, v4, .int k n, v6]) 5).run Try.prog w = .ok (.int k n) w := by kernel_rfl
theorem field62_5 (v0 v1 v2 v3 v4 v6 : Value) (k : IntKind) (n : Int) (w : World) : (Instr.field 62 (.agg #[v0, v1, v2, v3, v4, .int k n, v6]) 5).run Try.prog w = .ok (.int k n) w := by kernel_rfl

set_option maxHeartbeats 1000000 in
theorem encRef_any (i : QI) (w : World) (hn : 0 ≤ i.imm) (hn2 : i.imm < 4294967296) :
    Calls Try.prog 18 #[.agg #[.int .i64 i.op, .int .i64 i.d, .int .i64 i.a, .int .i64 i.b, .int .u32 i.imm]] w fun e w' => e = .returned (.tuple #[.int .u32 (encW i), .int .i64 (encE i)]) ∧ Below w.heap.size w w' := by
  by_cases hv : validR i = true
  · have hfa := validR_facts i hv
    have hew : encW i = wordR i := by unfold encW; rw [if_pos hv]
    have hee : encE i = 0 := by unfold encE; rw [if_pos hv]
    rw [hew, hee]
    clear hew hee
    have hV := validRef_any i
    obtain ⟨op, d, a, b, imm⟩ := i
    obtain ⟨q1, q2, q3, q4, q5, q6, q7, q8, -, qa, qb, -, -⟩ := hfa
    simp only at *
    have hfi := formOf_fine op
    have Hbz : Hid ((formOf op).bits ≠ 0 → b = 0) := fun h => qb (by cases hq : (formOf op).b; rfl; exact absurd (hfi.b hq) h)
    have Haz : Hid ((formOf op).bits = 22 → a = 0) := fun h => qa (by cases hq : (formOf op).a; rfl; exact absurd h (hfi.a hq))
    clear qa qb hfi
    rw [hv] at hV
    have HV := Lib.hid hV
    clear hV hv
    have hO := of_any op
    have hwr : wordR ⟨op, d, a, b, imm⟩ = op * 67108864 + d * 4194304 + a * 262144 + b * 16384 + imm % pw (formOf op).bits := rfl
    rw [hwr]
    rcases (formOf_fine op).bits with hb | hb | hb
    all_goals
      have hfld := field47_5
      rw [hb] at hO Hbz Haz ⊢
      have HO := Lib.hid hO
      clear hO hb hwr
      go_enter Try.func18, Try.ntmps18
      go_wp2_with fail
      refine (HV.out _ hn hn2).mono ?_
      rintro e w1 ⟨rfl, hb1⟩
      obtain ⟨hc, hfz⟩ := bcell hb1
      have hz := grew hb1
      go_wp2_with (go_at_call 26; (with_reducible refine (HO.out _).mono ?_); rintro e w2 ⟨rfl, hb2⟩; obtain ⟨hc2, hfz2⟩ := bcell hb2)
      go_ret2
      refine ⟨ret_tup2 ?_ rfl, (by repeat' (first | with_reducible exact Below.refl _ _ | with_reducible refine below_alloc ?_ _ | with_reducible refine below_drew ?_ | with_reducible refine below_drewN ?_ _ | with_reducible refine below_set ?_ (by first | exact Nat.le_refl _ | (simp <;> omega)) _ | with_reducible refine below_call ?_ (by assumption)))⟩
      have hbz := Hbz.out
      have haz := Haz.out
      first | have haz2 := haz trivial | skip
      simp only [pw18, pw22, pw0] at *
      omega
  · have hew : encW i = 0 := by unfold encW; rw [if_neg hv]
    have hee : encE i = 12 := by unfold encE; rw [if_neg hv]
    have hv0 : validR i = false := by simpa using hv
    rw [hew, hee]
    go_enter Try.func18, Try.ntmps18
    go_wp2_with (go_at_call 20; (with_reducible refine (validRef_any i _ hn hn2).mono ?_); rintro e w1 ⟨rfl, hb1⟩)
    go_ret2
    exact ⟨rfl, (by repeat' (first | with_reducible exact Below.refl _ _ | with_reducible refine below_alloc ?_ _ | with_reducible refine below_drew ?_ | with_reducible refine below_drewN ?_ _ | with_reducible refine below_set ?_ (by first | exact Nat.le_refl _ | (simp <;> omega)) _ | with_reducible refine below_call ?_ (by assumption)))⟩


set_option maxHeartbeats 1000000 in
theorem enc_any (i : QI) (w : World) (hn : 0 ≤ i.imm) (hn2 : i.imm < 4294967296) :
    Calls Try.prog 17 #[.agg #[.int .i64 i.op, .int .i64 i.d, .int .i64 i.a, .int .i64 i.b, .int .u32 i.imm]] w fun e w' => e = .returned (.tuple #[.int .u32 (encW i), .int .i64 (encE i)]) ∧ Below w.heap.size w w' := by
  by_cases hv : validR i = true
  · have hfa := validR_facts i hv
    have hew : encW i = wordR i := by unfold encW; rw [if_pos hv]
    have hee : encE i = 0 := by unfold encE; rw [if_pos hv]
    rw [hew, hee]
    clear hew hee
    have hV := valid_any i
    obtain ⟨op, d, a, b, imm⟩ := i
    obtain ⟨q1, q2, q3, q4, q5, q6, q7, q8, -, qa, qb, -, -⟩ := hfa
    simp only at *
    have hfi := formOf_fine op
    have Hbz : Hid ((formOf op).bits ≠ 0 → b = 0) := fun h => qb (by cases hq : (formOf op).b; rfl; exact absurd (hfi.b hq) h)
    have Haz : Hid ((formOf op).bits = 22 → a = 0) := fun h => qa (by cases hq : (formOf op).a; rfl; exact absurd h (hfi.a hq))
    clear qa qb hfi
    rw [hv] at hV
    have HV := Lib.hid hV
    clear hV hv
    have hO := ofS_any op
    have hwr : wordR ⟨op, d, a, b, imm⟩ = op * 67108864 + d * 4194304 + a * 262144 + b * 16384 + imm % pw (formOf op).bits := rfl
    rw [hwr]
    rcases (formOf_fine op).bits with hb | hb | hb
    all_goals
      have hfld := field62_5
      rw [hb] at hO Hbz Haz ⊢
      have HO := Lib.hid hO
      clear hO hb hwr
      go_enter Try.func17, Try.ntmps17
      go_wp2_with fail
      refine (HV.out _ hn hn2).mono ?_
      rintro e w1 ⟨rfl, hb1⟩
      obtain ⟨hc, hfz⟩ := bcell hb1
      have hz := grew hb1
      have or1 := or_join (op * 67108864) (d * 4194304) 26 (by omega) (by omega) (by omega) (by omega) (by omega) (by omega)
      have or2 := or_join (op * 67108864 + d * 4194304) (a * 262144) 22 (by omega) (by omega) (by omega) (by omega) (by omega) (by omega)
      have or3 := or_join (op * 67108864 + d * 4194304 + a * 262144) (b * 16384) 18 (by omega) (by omega) (by omega) (by omega) (by omega) (by omega)
      go_upto_region 4 with (fail)
      go_region_held3 (fun w' => w'.cell? ⟨w.heap.size, 0, none⟩ = some (.int .i64 op) ∧ w'.cell? ⟨w.heap.size, 4, none⟩ = some (.int .u32 imm)) (first | (go_keep; done) | (go_split_ands; (repeat' apply And.intro) <;> (apply cell_keep <;> assumption)))
        (first | (go_at_call 34; (with_reducible refine (HO.out _).mono ?_); rintro e w2 ⟨rfl, hb2⟩; obtain ⟨hc2, hfz2⟩ := bcell hb2))
      go_wp2
      go_ret2
      refine ⟨ret_tup2 ?_ rfl, (by repeat' (first | with_reducible exact Below.refl _ _ | with_reducible refine below_alloc ?_ _ | with_reducible refine below_drew ?_ | with_reducible refine below_drewN ?_ _ | with_reducible refine below_set ?_ (by first | exact Nat.le_refl _ | (simp <;> omega)) _ | with_reducible refine below_call ?_ (by assumption)))⟩
      have hbz := Hbz.out
      have haz := Haz.out
      first | have hbz2 := hbz (by decide) | skip
      first | have haz2 := haz trivial | have haz2 := haz rfl | skip
      first
      | (rw [mask0, and0 _ hn hn2, or_join _ 0 14 (by omega) (by omega) (by omega) (by omega) (by omega) (by omega), pw0]; omega)
      | (rw [mask18, and18 _ hn hn2, or_join _ (imm % 262144) 18 (by omega) (by omega) (by omega) (by omega) (by omega) (by omega), pw18])
      | (rw [mask22, and22 _ hn hn2, or_join _ (imm % 4194304) 22 (by omega) (by omega) (by omega) (by omega) (by omega) (by omega), pw22])
  · have hew : encW i = 0 := by unfold encW; rw [if_neg hv]
    have hee : encE i = 12 := by unfold encE; rw [if_neg hv]
    have hv0 : validR i = false := by simpa using hv
    rw [hew, hee]
    go_enter Try.func17, Try.ntmps17
    go_wp2_with (go_at_call 19; (with_reducible refine (valid_any i _ hn hn2).mono ?_); rintro e w1 ⟨rfl, hb1⟩)
    go_ret2
    exact ⟨rfl, (by repeat' (first | with_reducible exact Below.refl _ _ | with_reducible refine below_alloc ?_ _ | with_reducible refine below_drew ?_ | with_reducible refine below_drewN ?_ _ | with_reducible refine below_set ?_ (by first | exact Nat.le_refl _ | (simp <;> omega)) _ | with_reducible refine below_call ?_ (by assumption)))⟩

end Go.Proofs.Ytdoanneelnelbaa
