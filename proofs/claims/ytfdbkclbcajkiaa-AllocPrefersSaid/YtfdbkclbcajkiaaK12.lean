/-
  Comparing arrays of integers by value. No condition.
-/
import Derived.Test.YtfdbkclbcajkiaaK11
import Derived.ChangeKeysEq
namespace Go.Proofs.Ytfdbkclbcajkiaa
set_option linter.unusedSimpArgs false
set_option linter.unusedVariables false
open Go.RowKit

theorem TI.cellsOf {P : Program} {T : TypeId} {D : TypeDesc} {z : Value} {s b : Nat} (h : TI P T D z s b) : P.cellsOf T = s := by
  obtain ⟨i, h1, h2, h3, h4⟩ := h.info
  simp [Program.cellsOf, h1, h3]
theorem eqItems_int {P : Program} {U : TypeId} {k : IntKind} {z : Value} {bb d : Nat} (hU : TI P U (.int k) z 1 bb) {f g : Nat → Int} {xs ys : Array Value} (w : World) : ∀ (js : List Nat), (∀ j ∈ js, xs[j]? = some (.int k (f j)) ∧ ys[j]? = some (.int k (g j))) →
    (Op.eqItems (d + 1) U 1 xs ys js).run P w = .ok (js.all fun j => decide (f j = g j)) w
  | [], _ => by simp [Op.eqItems]
  | j :: js, h => by
    have h1 := (h j (by simp)).1
    have h2 := (h j (by simp)).2
    have e1 := run_part1 (o := j) (cs := xs) hU rfl h1 w
    have e2 := run_part1 (o := j) (cs := ys) hU rfl h2 w
    have e3 := run_equalIn_int (P := P) w d U k k (f j) (g j) hU.und
    have ih := eqItems_int hU (d := d) w js fun i hi => h i (by simp [hi])
    simp only [Op.eqItems, Sem.run_bind, Nat.mul_one, e1, e2, e3, Result.andThen_ok, List.all_cons]
    by_cases he : f j = g j
    · simp [he, ih]
    · simp [he]
theorem b_eqA {P : Program} {S U : TypeId} {k : IntKind} {z : Value} {n bb : Nat} {f g : Nat → Int} (hS : P.underlying S = some (.array n U)) (hU : TI P U (.int k) z 1 bb) (hq : P.eqGuardType P.depth S = false) :
    BinRun P .eql S (.agg ((List.range n).map fun i => .int k (f i)).toArray) (.agg ((List.range n).map fun i => .int k (g i)).toArray) (.bool ((List.range n).all fun j => decide (f j = g j))) := fun x y w => by
  obtain ⟨i, h1, h2, h3, h4⟩ := hU.info
  simp only [Sem.run_bind, run_eqGuard_agg w .eql S x y _ _ hq, Result.andThen_ok, run_eql_struct]
  rw [run_equalIn_array w 9999 _ _ hS h1, hU.cellsOf, eqItems_int (d := 9998) (f := f) (g := g) hU w]
  · simp
  · intro j hj
    have hj' : j < n := by simpa using hj
    simp [hj']

section
variable {P : Program} {N : Nat} {w0 : World} {M H : Nat → Prop} {E : Env} {Γ R : Ctx}
/-- In a drawn region, an operation under a guard that may or may not hold. -/
theorem prig_s {l : List Oper} {V : Vals} {i d gi t : Nat} {c b : Bool} {v : Value} {op : Op} {T : TypeId} {ps : String} {af : Array Edge} (Eg : Env) (ho : l[i]? = some ⟨some d, op, T, ps, af, some (gi, c)⟩) (hi : gslot l gi = some t) (ht : eget (vpre (preds ⟨some d, op, T, ps, af, some (gi, c)⟩) V ++ E) t = some (.bool b))
    (hgs : GS (vpre (preds ⟨some d, op, T, ps, af, some (gi, c)⟩) V ++ E) (gb c b) Eg) (h : gb c b = true → PR P N w0 M H (Eg ++ (vpre (preds ⟨some d, op, T, ps, af, some (gi, c)⟩) V ++ E)) Γ R op v) : PRi P N w0 M H E Γ R l V i d (gv (gb c b) v) :=
  ⟨_, ho, rfl, fun a w hE hC => by
    have hyd := hE.yield hi ht
    cases hg : gb c b with
    | true =>
      have hbc : b = c := by cases b <;> cases c <;> simp_all [gb]
      exact .inl ⟨by simp [Region.wanted, hyd, hbc], h hg _ _ _ a w (hE.gs hg hgs) hC _ _⟩
    | false =>
      have hbc : b ≠ c := by cases b <;> cases c <;> simp_all [gb]
      exact .inr ⟨by simp [Region.wanted, hyd, hbc], rfl⟩⟩
theorem eget_app {A B : Env} {s : Nat} {v : Value} : eget (A ++ B) s = some v → eget A s = some v ∨ eget B s = some v := by
  induction A with
  | nil => intro h; exact .inr h
  | cons p A ih =>
    intro h
    obtain ⟨j, u⟩ := p
    simp only [List.cons_append, eget] at h ⊢
    cases hb : Nat.beq j s with
    | true => rw [hb] at h; exact .inl (by simpa using h)
    | false => rw [hb] at h; simpa using ih h
theorem eget_left {A B : Env} {s : Nat} {v : Value} : eget A s = some v → eget (A ++ B) s = some v := by
  induction A with
  | nil => intro h; cases h
  | cons p A ih =>
    intro h
    obtain ⟨j, u⟩ := p
    simp only [List.cons_append, eget] at h ⊢
    cases hb : Nat.beq j s with
    | true => rw [hb] at h; simpa using h
    | false => rw [hb] at h; simpa using ih h
theorem prig_s2 {l : List Oper} {V : Vals} {i d gi t : Nat} {c b g : Bool} {v : Value} {op : Op} {T : TypeId} {ps : String} {af : Array Edge} (Eg E2 : Env) (ho : l[i]? = some ⟨some d, op, T, ps, af, some (gi, c)⟩) (hi : gslot l gi = some t) (ht : eget (vpre (preds ⟨some d, op, T, ps, af, some (gi, c)⟩) V ++ E) t = some (gv g (.bool b)))
    (hgs : GS (vpre (preds ⟨some d, op, T, ps, af, some (gi, c)⟩) V ++ E) (g && gb c b) Eg) (hgs2 : GS (vpre (preds ⟨some d, op, T, ps, af, some (gi, c)⟩) V ++ E) g E2) (h : g = true → gb c b = true → PR P N w0 M H (E2 ++ (Eg ++ (vpre (preds ⟨some d, op, T, ps, af, some (gi, c)⟩) V ++ E))) Γ R op v) :
    PRi P N w0 M H E Γ R l V i d (gv (g && gb c b) v) :=
  ⟨_, ho, rfl, fun a w hE hC => by
    have hyd : yielded l.toArray a.tmps gi = bif g then some b else none := by
      unfold yielded
      have : (l.toArray[gi]?).bind (·.dst) = some t := by simpa [gslot] using hi
      rw [this]
      cases g <;> simp [hE.slot t _ ht, gv, undef]
    cases hg : (g && gb c b) with
    | true =>
      have hg1 : g = true ∧ gb c b = true := by simpa using hg
      have hbc : b = c := by have := hg1.2; cases b <;> cases c <;> simp_all [gb]
      have h1 := hE.gs hg hgs
      have h2 := hE.gs hg1.1 hgs2
      refine .inl ⟨by simp [Region.wanted, hyd, hg1.1, hbc], h hg1.1 hg1.2 _ _ _ a w ⟨hE.defers, hE.size, fun s v hv => ?_⟩ hC _ _⟩
      rcases eget_app hv with h3 | h3
      · exact h2.slot s v (eget_left h3)
      · exact h1.slot s v h3
    | false =>
      refine .inr ⟨?_, rfl⟩
      cases g <;> cases b <;> cases c <;> simp_all [gb, Region.wanted]⟩
end

end Go.Proofs.Ytfdbkclbcajkiaa
