/-
  Rules that the logic lacked: making a list of zeros, parts of strings. No condition.
-/
import Derived.Test.YtdcbbkpdlcojfaaKC
namespace Go.Proofs.Ytdcbbkpdlcojfaa
set_option linter.unusedSimpArgs false
set_option linter.unusedVariables false
open Go.RowKit

section
variable {P : Program} {N : Nat} {w0 : World} {M H : Nat → Prop} {E : Env} {Γ R : Ctx} {Q : Exit → Act → World → Prop}
variable {ops : Array Oper} {rest : List Oper} {T : TypeId} {ps : String} {af : Array Edge} {d : Nat} {op : Op}
theorem madeCells_one (z : Value) (n : Nat) : (madeCells #[z] n).toList = List.replicate n z := by
  unfold madeCells
  apply List.ext_getElem
  · simp
  · intro i h1 h2
    simp [Nat.mod_one]
theorem flat_rep {α : Type} (enc : α → List Value) (x0 : α) (z : Value) (he : enc x0 = [z]) : ∀ n, (List.replicate n x0).flatMap enc = List.replicate n z
  | 0 => rfl
  | n + 1 => by simp [List.replicate_succ, he, flat_rep enc x0 z he n]
theorem ms_makeN {α : Type} {S U : TypeId} {D : TypeDesc} {z : Value} {bb c : Nat} (enc : α → List Value) (x0 : α) {x y : Operand} {k k' : IntKind} {i j : Int} (hS : P.underlying S = some (.slice U)) (hU : TI P U D z 1 bb) (h1 : z.cells = #[z]) (he : enc x0 = [z]) (hx : ev E x = some (.int k i)) (hy : ev E y = some (.int k' j)) (hi : i = (c : Int)) (hj : j = (c : Int)) (hc : bb * c ≤ 281474976710656) (hc2 : c ≤ maxLen) :
    MS P N w0 M H E Γ R ⟨some d, .makeSlice S x y, T, ps, af, none⟩ (X := SV) (fun _ => True) (fun v' => sv v') (fun v' => (d, own U 1 enc (sv v') (List.replicate c x0)) :: Γ) (fun _ => R) := by
  subst hi
  subst hj
  refine ms_gen fun a w hE hC => ?_
  obtain ⟨i, i1, i2, i3, i4⟩ := hU.info
  have h63' : (c : Int) ≤ 9223372036854775807 := by
    have h := hc2
    simp [maxLen] at h
    omega
  have hb' : (i.bytes : Int) * (c : Int) ≤ 281474976710656 := by
    have h : ((i.bytes * c : Nat) : Int) ≤ 281474976710656 := by rw [i4]; omega
    rwa [Int.natCast_mul] at h
  have hr := run_make (P := P) w S U i z hS i1 i2 k k' c c (by omega) (Int.le_refl _) hb' h63'
  simp only [Int.toNat_natCast, i3, Nat.mul_one, h1] at hr
  have ho : (w.alloc (.cells (madeCells #[z] c) U)).ownsRow 0 U 1 (.slice (some ⟨w.heap.size, 0, none⟩) c c) (List.replicate c x0).length ((List.replicate c x0).flatMap enc) := by
    refine ⟨by rw [flat_rep enc x0 z he]; simp, .inr ⟨w.heap.size, c, madeCells #[z] c, by rw [List.length_replicate], Nat.zero_le _, heap_alloc_new w _, by rw [List.length_replicate]; exact Nat.le_refl _, hc2, by simp [size_madeCells], ?_⟩⟩
    rw [madeCells_one, flat_rep enc x0 z he]
    simp
  have hg := World.grownBy_alloc w (.cells (madeCells #[z] c) U) none
  refine ⟨⟨some ⟨w.heap.size, 0, none⟩, c, c⟩, w.alloc (.cells (madeCells #[z] c) U), trivial, by simp [execOp, hE.ev hx, hE.ev hy, hr, sv], ?_⟩
  refine hC.new ⟨hg.os, hg.tape, hg.output, hg.size, fun k hk _ => hg.block k hk (by simp)⟩ ⟨fun b => b = w.heap.size, ⟨fun x => by simp [sv, Value.ownBlock, eq_comm], ho⟩, fun b hb => ?_⟩
  subst hb
  exact ⟨(ho.lt _ rfl).2, Nat.le_refl _⟩
theorem r_makeN {α : Type} {S U : TypeId} {D : TypeDesc} {z : Value} {bb c : Nat} (enc : α → List Value) (x0 : α) {x y : Operand} {k k' : IntKind} {i j : Int} (hS : P.underlying S = some (.slice U)) (hU : TI P U D z 1 bb) (h1 : z.cells = #[z]) (he : enc x0 = [z]) (hx : ev E x = some (.int k i)) (hy : ev E y = some (.int k' j)) (hi : i = (c : Int)) (hj : j = (c : Int)) (hc : bb * c ≤ 281474976710656) (hc2 : c ≤ maxLen) (hd : Nat.blt d N = true)
    (kk : ∀ v' : SV, At N w0 M H ((d, sv v') :: E) ((d, own U 1 enc (sv v') (List.replicate c x0)) :: Γ) R (wpList P ops Q rest)) : At N w0 M H E Γ R (wpList P ops Q (⟨some d, .makeSlice S x y, T, ps, af, none⟩ :: rest)) :=
  r_ms (ms_makeN enc x0 hS hU h1 he hx hy hi hj hc hc2) hd fun v' _ => kk v'
/-- The front of a string, and its end. -/
theorem p_slice_strhi {S : TypeId} {x y : Operand} {k : IntKind} {s : ByteArray} {i : Int} (hS : P.underlying S = some .string) (hx : ev E x = some (.string s)) (hy : ev E y = some (.int k i)) (h0 : 0 ≤ i) (h1 : i ≤ s.size) : PR P N w0 M H E Γ R (.slice S x none (some y) none) (.string (s.extract 0 i.toNat)) :=
  fun _ _ _ a w hE _ _ _ => by
    have h2 := run_sliceAt_string (P := P) w S (.string s) none (some (.int k i)) none hS
    have h3 := run_slice_string_h (P := P) w S s hS k i h0 h1
    simp [execOp, hE.ev hx, hE.ev hy, h2, h3]
theorem p_slice_strlo {S : TypeId} {x y : Operand} {k : IntKind} {s : ByteArray} {i : Int} (hS : P.underlying S = some .string) (hx : ev E x = some (.string s)) (hy : ev E y = some (.int k i)) (h0 : 0 ≤ i) (h1 : i ≤ s.size) : PR P N w0 M H E Γ R (.slice S x (some y) none none) (.string (s.extract i.toNat s.size)) :=
  fun _ _ _ a w hE _ _ _ => by
    have h2 := run_sliceAt_string (P := P) w S (.string s) (some (.int k i)) none none hS
    have h3 := run_slice_string_l (P := P) w S s hS k i h0 h1
    simp [execOp, hE.ev hx, hE.ev hy, h2, h3]
end
end Go.Proofs.Ytdcbbkpdlcojfaa
