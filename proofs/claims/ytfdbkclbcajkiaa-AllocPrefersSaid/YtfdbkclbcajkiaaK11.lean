/-
  Making slices, parts of slices, arrays told by functions. No condition.
-/
import Derived.Test.YtfdbkclbcajkiaaK10
namespace Go.Proofs.Ytfdbkclbcajkiaa
set_option linter.unusedSimpArgs false
set_option linter.unusedVariables false
open Go.RowKit

section
variable {P : Program} {N : Nat} {w0 : World} {M H : Nat → Prop} {E : Env} {Γ R : Ctx} {Q : Exit → Act → World → Prop}
variable {ops : Array Oper} {rest : List Oper} {T : TypeId} {ps : String} {af : Array Edge} {d : Nat} {op : Op}

theorem ms_make0 {α : Type} {S U : TypeId} {D : TypeDesc} {z : Value} {s bb c : Nat} (enc : α → List Value) {x y : Operand} {k k' : IntKind} {i : Int} (hS : P.underlying S = some (.slice U)) (hU : TI P U D z s bb) (hx : ev E x = some (.int k 0)) (hy : ev E y = some (.int k' i)) (hi : i = (c : Int)) (hc : bb * c ≤ 281474976710656) (hc2 : c ≤ maxLen) :
    MS P N w0 M H E Γ R ⟨some d, .makeSlice S x y, T, ps, af, none⟩ (X := SV) (fun _ => True) (fun v' => sv v') (fun v' => (d, own U s enc (sv v') []) :: Γ) (fun _ => R) := by
  subst hi
  refine ms_gen fun a w hE hC => ?_
  obtain ⟨i, i1, i2, i3, i4⟩ := hU.info
  obtain ⟨w', hr, ho, hg⟩ := run_make_own (P := P) w 0 S U i z s hS i1 i2 i3 k k' c (by rw [i4]; exact hc) hc2 (Nat.zero_le _)
  refine ⟨⟨some ⟨w.heap.size, 0, none⟩, 0, c⟩, w', trivial, by simp [execOp, hE.ev hx, hE.ev hy, hr, sv], ?_⟩
  refine hC.new ⟨hg.os, hg.tape, hg.output, hg.size, fun k hk _ => hg.block k hk (by simp)⟩ ⟨fun b => b = w.heap.size, ⟨fun x => by simp [sv, Value.ownBlock, eq_comm], ho⟩, fun b hb => ?_⟩
  subst hb
  exact ⟨(ho.lt _ rfl).2, Nat.le_refl _⟩
theorem r_make0 {α : Type} {S U : TypeId} {D : TypeDesc} {z : Value} {s bb c : Nat} (enc : α → List Value) {x y : Operand} {k k' : IntKind} {i : Int} (hS : P.underlying S = some (.slice U)) (hU : TI P U D z s bb) (hx : ev E x = some (.int k 0)) (hy : ev E y = some (.int k' i)) (hi : i = (c : Int)) (hc : bb * c ≤ 281474976710656) (hc2 : c ≤ maxLen) (hd : Nat.blt d N = true)
    (kk : ∀ v' : SV, At N w0 M H ((d, sv v') :: E) ((d, own U s enc (sv v') []) :: Γ) R (wpList P ops Q rest)) : At N w0 M H E Γ R (wpList P ops Q (⟨some d, .makeSlice S x y, T, ps, af, none⟩ :: rest)) :=
  r_ms (ms_make0 enc hS hU hx hy hi hc hc2) hd fun v' _ => kk v'

theorem map_congr28 {n : Nat} {f g : Nat → Value} (h : ∀ i, i < n → f i = g i) : (List.range n).map f = (List.range n).map g := List.map_congr_left fun i hi => h i (by simpa using hi)
theorem arr_fg {b T n : Nat} {f g : Nat → Value} (h : ∀ i, i < n → f i = g i) : ∀ (w : World) (G : Nat → Prop), (arr b T n f).pred w G → (arr b T n g).pred w G := fun w G hh => ⟨hh.1, hh.2.congr h⟩

/-- The first j elements of a slice, for reading. -/
theorem ms_slice_hi {α : Type} {S U : TypeId} {D : TypeDesc} {z : Value} {s bb j : Nat} {enc : α → List Value} {x y : Operand} {k : IntKind} {i : Int} {v : Value} {l : List α} (r m : Nat) (hS : P.underlying S = some (.slice U)) (hU : TI P U D z s bb) (he : ∀ x, (enc x).length = s) (hx : ev E x = some v) (hy : ev E y = some (.int k i)) (hi : i = (j : Int)) (hj : j ≤ l.length) (hr : cget R r = some (sl s enc v l)) :
    MS P N w0 M H E Γ R ⟨some d, .slice S x none (some y) none, T, ps, af, none⟩ (X := SV) (fun _ => True) (fun v' => sv v') (fun _ => Γ) (fun v' => (m, sl s enc (sv v') (l.take j)) :: R) := by
  subst hi
  refine ms_gen fun a w hE hC => ?_
  obtain ⟨G, ⟨c, h1, h2, h3⟩, _⟩ := hC.reads (.inr hr)
  rcases h3 with ⟨rfl, _, rfl⟩ | ⟨b, o, rfl, hb, hc⟩
  · have hj0 : j = 0 := by simpa using hj
    subst hj0
    refine ⟨nilS, w, trivial, ?_, ?_⟩
    · simp [execOp, hE.ev hx, hE.ev hy, Instr.sliceAt, Instr.slice, run_underlying hS, Instr.sliceBounds, Instr.sliceBound, asIntOf, hU.sizeOf, sv, nilS]
    · simpa [sv, nilS] using hC.nil (r := m) (s := s) (enc := enc)
  · refine ⟨⟨some ⟨b, o, none⟩, j, c⟩, w, trivial, ?_, ?_⟩
    · have hjc : (j : Int) ≤ c := by omega
      simp [execOp, hE.ev hx, hE.ev hy, Instr.sliceAt, Instr.slice, run_underlying hS, Instr.sliceBounds, Instr.sliceBound, asIntOf, hU.sizeOf, sv, hjc, add_lit']
      intro h
      omega
    · refine hC.more (k := r) hr fun G hG hlt => ?_
      obtain ⟨c', h1', h2', h3'⟩ := hG
      rcases h3' with ⟨_, _, hv⟩ | ⟨b', o', hv, hb', hc'⟩
      · simp at hv
      · simp only [Value.slice.injEq, Option.some.injEq, Addr.mk.injEq, and_true, true_and] at hv
        obtain ⟨⟨rfl, rfl⟩, rfl⟩ := hv
        refine ⟨G, ⟨c, by rw [List.length_take]; omega, h2, .inr ⟨b, o, by simp [sv, Nat.min_eq_left hj], hb', fun q u hq => hc' q u ?_⟩⟩, fun b hb => hb⟩
        have hp : ∀ (l : List α) (j q : Nat) (u : Value), ((l.take j).flatMap enc)[q]? = some u → (l.flatMap enc)[q]? = some u := by
          intro l j q u hq
          have : l.flatMap enc = (l.take j).flatMap enc ++ (l.drop j).flatMap enc := by rw [← List.flatMap_append, List.take_append_drop]
          rw [this, List.getElem?_append_left (List.getElem?_eq_some_iff.1 hq).1]
          exact hq
        exact hp l j q u hq
theorem r_slice_hi {α : Type} {S U : TypeId} {D : TypeDesc} {z : Value} {s bb j : Nat} {enc : α → List Value} {x y : Operand} {k : IntKind} {i : Int} {v : Value} {l : List α} (r m : Nat) (hS : P.underlying S = some (.slice U)) (hU : TI P U D z s bb) (he : ∀ x, (enc x).length = s) (hx : ev E x = some v) (hy : ev E y = some (.int k i)) (hi : i = (j : Int)) (hj : j ≤ l.length) (hr : cget R r = some (sl s enc v l)) (hd : Nat.blt d N = true)
    (kk : ∀ v' : SV, At N w0 M H ((d, sv v') :: E) Γ ((m, sl s enc (sv v') (l.take j)) :: R) (wpList P ops Q rest)) : At N w0 M H E Γ R (wpList P ops Q (⟨some d, .slice S x none (some y) none, T, ps, af, none⟩ :: rest)) :=
  r_ms (ms_slice_hi r m hS hU he hx hy hi hj hr) hd fun v' _ => kk v'
end
end Go.Proofs.Ytfdbkclbcajkiaa
