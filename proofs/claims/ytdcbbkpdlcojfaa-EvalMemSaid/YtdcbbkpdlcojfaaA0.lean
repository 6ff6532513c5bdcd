/-
  Small things for chapter 9. No condition.
-/
import Derived.Test.YtdcbbkpdlcojfaaKP
import Derived.Test.YtdcbbkpdlcojfaaYF
namespace Go.Proofs.Ytdcbbkpdlcojfaa
set_option linter.unusedSimpArgs false
set_option linter.unusedVariables false
open Go.RowKit

def eU (x : Int) : List Value := [.int .u32 x]
theorem ba_eq (x y : ByteArray) : (x == y) = decide (x = y) := by
  obtain ⟨⟨x⟩⟩ := x
  obtain ⟨⟨y⟩⟩ := y
  show ((⟨x⟩ : Array UInt8) == ⟨y⟩) = _
  simp
  exact Bool.beq_eq_decide_eq x y

/-- Maps whose keys are strings. -/
def mkS (s : ByteArray) : Value := .string s
theorem key_str {P : Program} {kt : TypeId} (h : P.underlying kt = some .string) : KeyLaw P kt mkS where
  check := fun b k w => by
    show (Instr.checkKey b (9999 + 1) kt (.string k)).run P w = _
    unfold Instr.checkKey
    simp [Sem.run_bind, run_underlying h]
  find := fun {α} kf vf k ms w => by
    have hnow : ∀ (ms : List (α × Nat)) (i : Nat), Instr.findNow .string (.string k) (ms.map (entOf mkS kf vf)) i = some (fnd kf vf k ms i) := by
      intro ms
      induction ms with
      | nil => intro i; rfl
      | cons m r ih =>
        intro i
        simp only [List.map_cons, Instr.findNow, entOf, mkS, Instr.sameNow, fnd]
        by_cases e : kf m.1 = k
        · have : (k == kf m.1) = true := by rw [ba_eq]; exact decide_eq_true e.symm
          rw [this, if_pos e]
        · have : (k == kf m.1) = false := by rw [ba_eq]; exact decide_eq_false fun h => e h.symm
          rw [this, if_neg e]
          exact ih (i + 1)
    unfold Instr.findKey
    simp only [Sem.run_bind, run_underlying h, Result.andThen_ok]
    show (match Instr.findNow .string (mkS k) (ms.map (entOf mkS kf vf)) 0 with | some r => pure r | none => _ : Sem (Option (Nat × Value))).run P w = _
    rw [show Instr.findNow .string (mkS k) (ms.map (entOf mkS kf vf)) 0 = some (fnd kf vf k ms 0) from hnow ms 0]
    rfl
  stays := fun k => by
    show Instr.sameBits 10000 (.string k) (.string k) = true
    simp [Instr.sameBits, ba_eq]
section
variable {P : Program} {N : Nat} {w0 : World} {M H : Nat → Prop} {E : Env} {Γ R : Ctx} {Q : Exit → Act → World → Prop}
variable {ops : Array Oper} {rest : List Oper} {T : TypeId} {ps : String} {af : Array Edge} {d : Nat}
variable {α κ : Type} [DecidableEq κ] {mk : κ → Value} {kf : α → κ} {vf : α → Value}
/-- An entry of a literal of a map. -/
theorem ms_insert {S kt et : TypeId} {x y z : Operand} {b : Nat} {k : Nat} (e : α) {L : List α} (L' : List α) (hS : P.underlying S = some (.map kt et)) (hK : KeyLaw P kt mk) (hx : ev E x = some (.map (some b))) (hy : ev E y = some (mk (kf e))) (hz : ev E z = some (vf e)) (hk : cget Γ k = some (mp mk kf vf (some b) L))
    (hp : (e :: L.filter fun a => decide (kf a ≠ kf e)).Perm L') :
    MS P N w0 M H E Γ R ⟨none, .insert S x y z, T, ps, af, none⟩ (X := Unit) (fun _ => True) (fun _ => undef) (fun _ => (k, mp mk kf vf (some b) L') :: Γ) (fun _ => R) :=
  fun a w hE hC next Q hn => ms_mapUpdate (T := T) (ps := ps) (af := af) e L' hS hK hx hy hz hk hp a w hE hC next Q hn
theorem r_insert {S kt et : TypeId} {x y z : Operand} {b : Nat} {k : Nat} (e : α) {L : List α} (L' : List α) (hS : P.underlying S = some (.map kt et)) (hK : KeyLaw P kt mk) (hx : ev E x = some (.map (some b))) (hy : ev E y = some (mk (kf e))) (hz : ev E z = some (vf e)) (hk : cget Γ k = some (mp mk kf vf (some b) L))
    (hp : (e :: L.filter fun a => decide (kf a ≠ kf e)).Perm L') (kk : At N w0 M H E ((k, mp mk kf vf (some b) L') :: Γ) R (wpList P ops Q rest)) : At N w0 M H E Γ R (wpList P ops Q (⟨none, .insert S x y z, T, ps, af, none⟩ :: rest)) :=
  r_ms0 (ms_insert e L' hS hK hx hy hz hk hp) fun _ _ => kk
/-- A concrete value becomes an interface. -/
theorem p_mkIface {S : TypeId} {D : TypeDesc} {x : Operand} {v : Value} (hS : P.underlying S = some D) (hD : ∀ l, D ≠ .interface l) (hx : ev E x = some v) : PR P N w0 M H E Γ R (.makeInterface S x) (.iface S v) := fun _ _ _ a w hE _ _ _ => by
  have : (Instr.makeInterface S v).run P w = .ok (.iface S v) w := by
    unfold Instr.makeInterface
    simp only [Sem.run_bind, run_underlying hS, Result.andThen_ok]
    cases D <;> first | rfl | exact absurd rfl (hD _)
  simp [execOp, hE.ev hx, this]
/-- A panic. -/
theorem r_panic {S : TypeId} {x : Operand} {v : Value} (hx : ev E x = some (.iface S v)) (k : At N w0 M H E Γ R (Q (.panic [{ v := .iface S v, recovered := false }]))) :
    At N w0 M H E Γ R (wpList P ops Q (⟨none, .panic x, T, ps, af, none⟩ :: rest)) := by
  intro a w hE hC
  unfold wpList
  rw [if_pos (by simp [Region.wanted])]
  left
  unfold Oper.wp
  have hrun : (execOp a.eval ⟨none, .panic x, T, ps, af, none⟩).run P w = .halt (.panic (.iface S v)) w := by
    simp [execOp, hE.ev hx, Instr.panic, goPanic]
  rw [hrun]
  exact k a w hE hC
end

end Go.Proofs.Ytdcbbkpdlcojfaa
