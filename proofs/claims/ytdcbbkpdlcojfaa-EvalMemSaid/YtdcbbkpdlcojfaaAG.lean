/-
  The closure that Run defers. No condition.
-/
import Derived.Test.YtdcbbkpdlcojfaaAF
import Derived.Test.YtdcbbkpdlcojfaaKD
namespace Go.Proofs.Ytdcbbkpdlcojfaa
set_option linter.unusedSimpArgs false
set_option linter.unusedVariables false
open Go.RowKit

theorem of_at {P : Program} {N : Nat} {w0 : World} {M H : Nat → Prop} {E : Env} {Γ R : Ctx} {c : Code} {Q : Exit → Act → World → Prop} {a : Act} {w : World} (hE : EOk N E a) (hC : COk w0 M H Γ R w) (h : At N w0 M H E Γ R (c.wp P Q)) : c.wp P Q a w := h a w hE hC
theorem cok_nil (w : World) : COk w (fun _ => False) (fun _ => False) [] [] w := ⟨fun _ _ => False, Touch.refl _ _, fun k A h => by simp [cget] at h, fun _ _ h => h.elim, fun _ _ h => h.elim, fun _ _ _ h => h.elim, fun k A h => by simp [cget] at h⟩
section
variable {N : Nat} {w0 : World} {M H : Nat → Prop} {E : Env} {Γ R : Ctx}
theorem p_nilIs {S' : TypeId} {x : Operand} (hx : ev E x = some .nilIface) : PR Try.prog N w0 M H E Γ R (.binOp .eql 20 x (.const .nilIface) S') (.bool true) := fun _ _ _ a w hE _ _ _ => by
  have h : (do eqGuard .eql 20 x (.const .nilIface) .nilIface .nilIface; binOp .eql 20 .nilIface .nilIface : Sem Value).run Try.prog w = .ok (.bool true) w := by
    have h2 : (Op.equal 20 .nilIface .nilIface).run Try.prog w = .ok true w := by kernel_rfl
    simp [eqGuard, binOp, h2]
  simp only [execOp, hE.ev hx, hE.ev (x := .const .nilIface) rfl, Sem.run_bind] at h ⊢
  rw [h]; rfl
theorem p_nilNot {S' T : TypeId} {v : Value} {x : Operand} (hx : ev E x = some (.iface T v)) : PR Try.prog N w0 M H E Γ R (.binOp .eql 20 x (.const .nilIface) S') (.bool false) := fun _ _ _ a w hE _ _ _ => by
  have h : (do eqGuard .eql 20 x (.const .nilIface) (.iface T v) .nilIface; binOp .eql 20 (.iface T v) .nilIface : Sem Value).run Try.prog w = .ok (.bool false) w := by
    have h2 : (Op.equal 20 (.iface T v) .nilIface).run Try.prog w = .ok false w := by kernel_rfl
    simp [eqGuard, binOp, h2]
  simp only [execOp, hE.ev hx, hE.ev (x := .const .nilIface) rfl, Sem.run_bind] at h ⊢
  rw [h]; rfl
end
set_option maxHeartbeats 4000000 in
set_option maxRecDepth 100000 in
theorem run1_ret {w0 : World} {M H : Nat → Prop} {Γ R : Ctx} (b6 b7 b8 : Nat) (w : World) (hC : COk w0 M H Γ R w) : CallsD Try.prog 37 #[.pointer (some ⟨b6, 0, none⟩), .pointer (some ⟨b7, 0, none⟩), .pointer (some ⟨b8, 0, none⟩)] .returning w fun e u' w' => u' = .returning ∧ e = .returned (.tuple #[]) ∧ COk w0 M H Γ R w' := by
  refine callsD_of_wpS Try.func37 rfl fun c₀ cs hu => ?_
  apply wpS_seq
  apply wpS_region
  simp [wpOpsS, go_sem, recoverD, hu, Try.ntmps37, Exit.thenS]
  refine wpS_of_wp ?_
  refine of_at (N := 19) (E := [(3, .nilIface)]) ⟨rfl, by simp, fun t u ht => ?_⟩ hC ?_
  · simp only [eget] at ht
    cases hb : Nat.beq 3 t with
    | true =>
      rw [hb] at ht
      have := Nat.eq_of_beq_eq_true hb
      subst this
      simp at ht
      subst ht
      rfl
    | false => rw [hb] at ht; simp at ht
  refine r_seq ?_
  refine r_seq ?_
  refine r_region ?_
  refine r_p (p_move rfl) rfl ?_
  refine r_p (p_nilIs rfl) rfl ?_
  refine r_nil ?_
  refine r_cond rfl (fun h1 => ?_) (fun h1 => absurd h1 (by simp))
  refine r_cret ?_
  intro a w' hE hC'
  show a.defers = [] ∧ _
  refine ⟨hE.defers, c₀.mode, rfl, .tuple #[], ?_, hu, rfl, hC'⟩
  exact results_none rfl _ _ _
end Go.Proofs.Ytdcbbkpdlcojfaa
