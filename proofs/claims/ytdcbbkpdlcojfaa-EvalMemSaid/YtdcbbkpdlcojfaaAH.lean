/-
  The closure that Run defers, where it recovers. No condition.
-/
import Derived.Test.YtdcbbkpdlcojfaaAG
namespace Go.Proofs.Ytdcbbkpdlcojfaa
set_option linter.unusedSimpArgs false
set_option linter.unusedVariables false
open Go.RowKit

section
variable {N : Nat} {w0 : World} {M H : Nat → Prop} {E : Env} {Γ R : Ctx}
theorem r_forget (k : Nat) {A : Asn} {Rel : Act → World → Prop} (hk : cget Γ k = some A) (h : At N w0 M H E ((k, emp) :: Γ) R Rel) : At N w0 M H E Γ R Rel :=
  h.weak (fun _ h => h) fun w hC => hC.upd hk fun G hG hlt => ⟨fun _ => False, fun _ h => h, fun _ h => h.elim, Touch.refl _ _⟩
theorem p_assertOk {v : Value} {x : Operand} (hx : ev E x = some (.iface 94 v)) : PR Try.prog N w0 M H E Γ R (.typeAssert x 20 94 true) (.tuple #[v, .bool true]) := fun _ _ _ a w hE _ _ _ => by
  have h : (Instr.typeAssert (.iface 94 v) 20 94 true).run Try.prog w = .ok (.tuple #[v, .bool true]) w := by kernel_rfl
  simp [execOp, hE.ev hx, h]
end
set_option maxHeartbeats 8000000 in
set_option maxRecDepth 100000 in
theorem run1_pan {w0 : World} {M H : Nat → Prop} {R : Ctx} (b6 b7 b8 : Nat) (c6 c7 c8 : Value) (Γ : Ctx) (z : Int) (w : World) (hC : COk w0 M H ((6, row b6 35 [c6]) :: (7, row b7 35 [c7]) :: (8, row b8 43 [c8]) :: Γ) R w) : CallsD Try.prog 37 #[.pointer (some ⟨b6, 0, none⟩), .pointer (some ⟨b7, 0, none⟩), .pointer (some ⟨b8, 0, none⟩)] (.panicking [{ v := fail z, recovered := false }]) w fun e u' w' => u' = .panicking [{ v := fail z, recovered := true }] ∧ e = .returned (.tuple #[]) ∧ COk w0 M H ((4, emp) :: (8, row b8 43 [.int .i64 z]) :: (7, row b7 35 [sv nilS]) :: (6, row b6 35 [sv nilS]) :: Γ) R w' := by
  refine callsD_of_wpS Try.func37 rfl fun c₀ cs hu => ?_
  apply wpS_seq
  apply wpS_region
  simp [wpOpsS, go_sem, recoverD, hu, Try.ntmps37, Exit.thenS]
  refine wpS_of_wp ?_
  refine of_at (N := 19) (E := [(3, fail z), (0, .pointer (some ⟨b6, 0, none⟩)), (1, .pointer (some ⟨b7, 0, none⟩)), (2, .pointer (some ⟨b8, 0, none⟩))]) ⟨rfl, by simp, fun t u ht => ?_⟩ hC ?_
  · simp only [eget] at ht
    cases q3 : Nat.beq 3 t with
    | true => rw [q3] at ht; have := Nat.eq_of_beq_eq_true q3; subst this; simp at ht; subst ht; rfl
    | false =>
      rw [q3] at ht
      cases q0 : Nat.beq 0 t with
      | true => rw [q0] at ht; have := Nat.eq_of_beq_eq_true q0; subst this; simp at ht; subst ht; rfl
      | false =>
        rw [q0] at ht
        cases q1 : Nat.beq 1 t with
        | true => rw [q1] at ht; have := Nat.eq_of_beq_eq_true q1; subst this; simp at ht; subst ht; rfl
        | false =>
          rw [q1] at ht
          cases q2 : Nat.beq 2 t with
          | true => rw [q2] at ht; have := Nat.eq_of_beq_eq_true q2; subst this; simp at ht; subst ht; rfl
          | false => rw [q2] at ht; simp at ht
  refine r_seq ?_
  refine r_seq ?_
  refine r_region ?_
  refine r_p (p_move rfl) rfl ?_
  refine r_p (p_nilNot rfl) rfl ?_
  refine r_nil ?_
  refine r_cond rfl (fun h1 => ?_) (fun h1 => ?_)
  · exact absurd h1 (by simp)
  · (try simp only [decide_eq_true_eq, decide_eq_false_iff_not, Bool.and_eq_true, Bool.or_eq_true, Bool.and_eq_false_iff, Bool.or_eq_false_iff, Bool.not_eq_true, Bool.not_eq_false, Bool.not_eq_true', Bool.not_eq_false', Bool.not_not, bne_iff_ne, beq_iff_eq] at h1)
    refine r_skip ?_
    refine r_seq ?_
    refine r_region ?_
    refine r_p (p_move rfl) rfl ?_
    refine r_p (p_assertOk rfl) rfl ?_
    refine r_p (p_move rfl) rfl ?_
    refine r_p (p_extract rfl rfl) rfl ?_
    refine r_p (p_extract rfl rfl) rfl ?_
    refine r_alloc t94 rfl rfl fun b4 => ?_
    refine r_store_all (k := 4) t94 rfl rfl rfl rfl rfl rfl ?_
    refine r_p (p_assign rfl) rfl ?_
    refine r_nil ?_
    refine r_seq ?_
    refine r_seq ?_
    refine r_region ?_
    refine r_p (p_move rfl) rfl ?_
    refine r_p (p_not rfl) rfl ?_
    refine r_nil ?_
    refine r_cond rfl (fun h2 => ?_) (fun h2 => ?_)
    · exact absurd h2 (by simp)
    · (try simp only [decide_eq_true_eq, decide_eq_false_iff_not, Bool.and_eq_true, Bool.or_eq_true, Bool.and_eq_false_iff, Bool.or_eq_false_iff, Bool.not_eq_true, Bool.not_eq_false, Bool.not_eq_true', Bool.not_eq_false', Bool.not_not, bne_iff_ne, beq_iff_eq] at h2)
      refine r_skip ?_
      refine r_drawM [0, 1, 2, 3, 4] [2, 3, 0, 1, 4] [17, 18] _ rfl rfl rfl (stg_mem0 (V := [(0, 17, _), (1, 18, _)]) [0, 1] 2 [2] [] (fun _ => []) rfl rfl (prs_cons (pri rfl (p_field0 fo94_0 rfl)) (prs_cons (pri rfl (p_load1 t43 rfl rfl (g_row1 (k := 4) rfl rfl))) prs_nil)) rfl rfl rfl rfl rfl rfl rfl rfl rfl (fun _ _ => rfl) rfl (ms_store_row (k := 6) t35 rfl rfl rfl rfl rfl rfl rfl rfl) (fun _ _ => stg_mem0 [0, 1] 3 [3, 2] [] (fun _ => []) rfl rfl (prs_cons (pri rfl (p_field0 fo94_0 rfl)) (prs_cons (pri rfl (p_load1 t43 rfl rfl (g_row1 (k := 4) rfl rfl))) prs_nil)) rfl rfl rfl rfl rfl rfl rfl rfl rfl (fun _ _ => rfl) rfl (ms_store_row (k := 7) t35 rfl rfl rfl rfl rfl rfl rfl rfl) (fun _ _ => stg_mem0 [0, 1] 4 [4, 3, 2, 1, 0] [] (fun _ => []) rfl rfl (prs_cons (pri rfl (p_field0 fo94_0 rfl)) (prs_cons (pri rfl (p_load1 t43 rfl rfl (g_row1 (k := 4) rfl rfl))) prs_nil)) rfl rfl rfl rfl rfl rfl rfl rfl rfl (fun _ _ => rfl) rfl (ms_store_row (k := 8) t43 rfl rfl rfl rfl rfl rfl rfl rfl) (fun _ _ => stg_end [] rfl rfl prs_nil rfl rfl rfl ?_))))
      refine r_forget 4 rfl ?_
      intro a w2 hE hC2
      have hg : cget ((4, emp) :: (8, row b8 43 [.int .i64 z]) :: (7, row b7 35 [sv nilS]) :: (6, row b6 35 [sv nilS]) :: (4, row b4 94 [.int .i64 z]) :: (4, row b4 94 [.int .i64 0]) :: (6, row b6 35 [c6]) :: (7, row b7 35 [c7]) :: (8, row b8 43 [c8]) :: Γ) = cget ((4, emp) :: (8, row b8 43 [.int .i64 z]) :: (7, row b7 35 [sv nilS]) :: (6, row b6 35 [sv nilS]) :: Γ) := by
        funext k
        simp only [cget]
        cases Nat.beq 4 k <;> cases Nat.beq 8 k <;> cases Nat.beq 7 k <;> cases Nat.beq 6 k <;> rfl
      have hC3 : COk w0 M H ((4, emp) :: (8, row b8 43 [.int .i64 z]) :: (7, row b7 35 [sv nilS]) :: (6, row b6 35 [sv nilS]) :: (4, row b4 94 [.int .i64 z]) :: (4, row b4 94 [.int .i64 0]) :: (6, row b6 35 [c6]) :: (7, row b7 35 [c7]) :: (8, row b8 43 [c8]) :: Γ) R w2 := hC2
      unfold COk at hC3
      rw [hg] at hC3
      exact ⟨hE.defers, .panicking [{ v := fail z, recovered := true }], rfl, .tuple #[], results_none rfl _ _ _, rfl, rfl, hC3⟩

end Go.Proofs.Ytdcbbkpdlcojfaa
