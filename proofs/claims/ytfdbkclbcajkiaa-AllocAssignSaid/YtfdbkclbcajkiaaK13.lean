/-
  The elements of a slice from the j-th on, for reading. No condition.
-/
import Derived.Test.YtfdbkclbcajkiaaK12
namespace Go.Proofs.Ytfdbkclbcajkiaa
set_option linter.unusedSimpArgs false
set_option linter.unusedVariables false
open Go.RowKit

section
variable {P : Program} {N : Nat} {w0 : World} {M H : Nat → Prop} {E : Env} {Γ R : Ctx}
variable {d : Nat} {ops : Array Oper} {rest : List Oper} {Q : Exit → Act → World → Prop} {T : TypeId} {ps : String} {af : Array Edge}

theorem flatK_len {α : Type} {enc : α → List Value} {s : Nat} (he : ∀ x, (enc x).length = s) : ∀ l : List α, (l.flatMap enc).length = l.length * s
  | [] => by simp
  | a :: l => by simp [flatK_len he l, he a, Nat.succ_mul, Nat.add_comm]
theorem flat_drop {α : Type} {enc : α → List Value} {s : Nat} (he : ∀ x, (enc x).length = s) {l : List α} {j q : Nat} {u : Value} (hj : j ≤ l.length) (h : ((l.drop j).flatMap enc)[q]? = some u) : (l.flatMap enc)[j * s + q]? = some u := by
  have e : l.flatMap enc = (l.take j).flatMap enc ++ (l.drop j).flatMap enc := by rw [← List.flatMap_append, List.take_append_drop]
  have hl : ((l.take j).flatMap enc).length = j * s := by rw [flatK_len he, List.length_take, Nat.min_eq_left hj]
  rw [e, List.getElem?_append_right (by omega), hl, show j * s + q - j * s = q by omega]
  exact h
/-- The elements from the j-th on, for reading. -/
theorem ms_slice_lo {α : Type} {S U : TypeId} {D : TypeDesc} {z : Value} {s bb j : Nat} {enc : α → List Value} {x y : Operand} {k : IntKind} {i : Int} {v : Value} {l : List α} (r m : Nat) (hS : P.underlying S = some (.slice U)) (hU : TI P U D z s bb) (he : ∀ x, (enc x).length = s) (hx : ev E x = some v) (hy : ev E y = some (.int k i)) (hi : i = (j : Int)) (hj : j ≤ l.length) (hr : cget R r = some (sl s enc v l)) :
    MS P N w0 M H E Γ R ⟨some d, .slice S x (some y) none none, T, ps, af, none⟩ (X := SV) (fun _ => True) (fun v' => sv v') (fun _ => Γ) (fun v' => (m, sl s enc (sv v') (l.drop j)) :: R) := by
  subst hi
  refine ms_gen fun a w hE hC => ?_
  obtain ⟨G, ⟨c, h1, h2, h3⟩, _⟩ := hC.reads (.inr hr)
  rcases h3 with ⟨rfl, _, rfl⟩ | ⟨b, o, rfl, hb, hc⟩
  · have hj0 : j = 0 := by simpa using hj
    subst hj0
    refine ⟨nilS, w, trivial, ?_, ?_⟩
    · simp [execOp, hE.ev hx, hE.ev hy, Instr.sliceAt, Instr.slice, run_underlying hS, Instr.sliceBounds, Instr.sliceBound, asIntOf, hU.sizeOf, sv, nilS]
    · simpa [sv, nilS] using hC.nil (r := m) (s := s) (enc := enc)
  · refine ⟨⟨some ⟨b, if c = j then o else o + j * s, none⟩, l.length - j, c - j⟩, w, trivial, ?_, ?_⟩
    · have hjc : (j : Int) ≤ l.length := by omega
      by_cases hcj : c = j
      · simp [execOp, hE.ev hx, hE.ev hy, Instr.sliceAt, Instr.slice, run_underlying hS, Instr.sliceBounds, Instr.sliceBound, asIntOf, hU.sizeOf, sv, hjc, add_lit', hcj]
        exact fun h => absurd h (by omega)
      · simp [execOp, hE.ev hx, hE.ev hy, Instr.sliceAt, Instr.slice, run_underlying hS, Instr.sliceBounds, Instr.sliceBound, asIntOf, hU.sizeOf, sv, hjc, add_lit', hcj]
        exact fun h => absurd h (by omega)
    · refine hC.more (k := r) hr fun G hG hlt => ?_
      obtain ⟨c', h1', h2', h3'⟩ := hG
      rcases h3' with ⟨_, _, hv⟩ | ⟨b', o', hv, hb', hc'⟩
      · simp at hv
      · simp only [Value.slice.injEq, Option.some.injEq, Addr.mk.injEq, and_true, true_and] at hv
        obtain ⟨⟨rfl, rfl⟩, rfl⟩ := hv
        refine ⟨G, ⟨c - j, by rw [List.length_drop]; omega, by omega, .inr ⟨b, if c = j then o else o + j * s, by simp [sv], hb', fun q u hq => ?_⟩⟩, fun b hb => hb⟩
        by_cases hcj : c = j
        · have : l.drop j = [] := List.drop_eq_nil_of_le (by omega)
          rw [this] at hq
          simp at hq
        · rw [if_neg hcj, Nat.add_assoc]
          exact hc' _ u (flat_drop he hj hq)
theorem r_slice_lo {α : Type} {S U : TypeId} {D : TypeDesc} {z : Value} {s bb j : Nat} {enc : α → List Value} {x y : Operand} {k : IntKind} {i : Int} {v : Value} {l : List α} (r m : Nat) (hS : P.underlying S = some (.slice U)) (hU : TI P U D z s bb) (he : ∀ x, (enc x).length = s) (hx : ev E x = some v) (hy : ev E y = some (.int k i)) (hi : i = (j : Int)) (hj : j ≤ l.length) (hr : cget R r = some (sl s enc v l)) (hd : Nat.blt d N = true)
    (kk : ∀ v' : SV, At N w0 M H ((d, sv v') :: E) Γ ((m, sl s enc (sv v') (l.drop j)) :: R) (wpList P ops Q rest)) : At N w0 M H E Γ R (wpList P ops Q (⟨some d, .slice S x (some y) none none, T, ps, af, none⟩ :: rest)) :=
  r_ms (ms_slice_lo r m hS hU he hx hy hi hj hr) hd fun v' _ => kk v'
/-- A new array of equal elements. -/
theorem ms_alloc_arr {S : TypeId} {D : TypeDesc} {z u : Value} {s bb n : Nat} (ht : TI P S D z s bb) (hc : z.cells.toList = List.replicate n u)
    : MS P N w0 M H E Γ R ⟨some d, .alloc S, T, ps, af, none⟩ (X := Nat) (fun _ => True) (fun b => .pointer (some ⟨b, 0, none⟩)) (fun b => (d, arr b S n (fun _ => u)) :: Γ) (fun _ => R) := by
  intro a w hE hC next Q hn
  refine ms_alloc (d := d) ht hc a w hE hC next Q fun b w' hx hC' => hn b w' hx ?_
  have hl : (List.replicate n u).length = n := by simp
  exact (hC'.upd (A := row b S (List.replicate n u)) (A' := arr b S n (fun _ => u)) (k := d) (by simp [cget]) fun G hG hlt =>
      ⟨G, row_arr hl (fun i hi => by simp [hi]) hG, fun b hb => ⟨hlt b hb, fun _ => hb⟩, Touch.refl _ _⟩).congr (fun j A h => by
        simp only [cget] at h ⊢
        cases hb : Nat.beq d j with
        | true => rw [hb] at h; simpa using h
        | false => rw [hb] at h; simpa using h) (fun _ _ h => h)
/-- What is owned may be read. -/
theorem Spec.ro1 {P : Program} {n : Nat} {vs : List Value} {A B : Asn} {X : Type} {φ : X → Prop} {v : X → Value} {L' R' : X → List Asn} (h : Spec P n vs [] [A] φ v L' R') (hAB : ∀ w G, B.pred w G → A.pred w G) : Spec P n vs [] [B] φ v L' R' := fun w M H ⟨F, hF⟩ =>
  h w M H ⟨F, hF.touch, hF.has, hF.lt, hF.mine, hF.apart, fun k C hk => by
    cases k with
    | zero =>
      obtain ⟨G, h1, h2⟩ := hF.ro 0 B rfl
      simp at hk
      subst hk
      exact ⟨G, hAB _ _ h1, h2⟩
    | succ k => simp at hk⟩
end
end Go.Proofs.Ytfdbkclbcajkiaa
