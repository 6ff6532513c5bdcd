/-
  Slices of several elements written out; guards that are decided. No condition.
-/
import Derived.Test.YtfdbkclbcajkiaaK8
namespace Go.Proofs.Ytfdbkclbcajkiaa
set_option linter.unusedSimpArgs false
set_option linter.unusedVariables false
open Go.RowKit

def ivs : Nat → List Value → List (Nat × Value)
  | _, [] => []
  | k, v :: vs => (k, v) :: ivs (k + 1) vs
theorem foldl_put (o : Nat) : ∀ (l : List Value) (k : Nat) (cs : Array Value), o + k + l.length ≤ cs.size → (l.zipIdx k).foldl (fun cs (p : Value × Nat) => cs.setIfInBounds (o + p.2) p.1) cs = (cs.toList.take (o + k) ++ l ++ cs.toList.drop (o + k + l.length)).toArray
  | [], k, cs, hk => by simp
  | u :: l, k, cs, hk => by
    simp only [List.zipIdx_cons, List.foldl_cons]
    rw [foldl_put o l (k + 1) (cs.setIfInBounds (o + k) u) (by simp at hk ⊢; omega)]
    congr 1
    have hlt : o + k < cs.toList.length := by rw [Array.length_toList]; simp at hk; omega
    apply List.ext_getElem?
    intro j
    simp only [Array.toList_setIfInBounds, List.getElem?_append, List.getElem?_take, List.getElem?_drop, List.getElem?_set, List.length_append, List.length_take, List.length_set, List.length_cons, Array.length_toList]
    have hlt' : o + k < cs.size := by simpa using hlt
    have e1 : min (o + (k + 1)) cs.size = o + k + 1 := by omega
    have e2 : min (o + k) cs.size = o + k := by omega
    simp only [e1, e2]
    by_cases h1 : j < o + k
    · simp [h1, show j < o + k + 1 by omega, show j < o + (k + 1) by omega, show ¬ o + k = j by omega, show j < o + k + (l.length + 1) by omega, show j < o + k + 1 + l.length by omega]
    · by_cases h2 : j = o + k
      · subst h2
        simp [hlt', show o + k < o + (k + 1) by omega, show o + k < o + k + 1 + l.length by omega]
      · simp only [show ¬ j < o + k + 1 by omega, h1, if_false]
        by_cases h3 : j < o + k + 1 + l.length
        · simp only [h3, show j < o + k + (l.length + 1) by omega, if_true]
          rw [show j - (o + k) = (j - (o + k + 1)) + 1 by omega]
          simp
        · simp only [h3, show ¬ j < o + k + (l.length + 1) by omega, if_false]
          rw [if_neg (by omega)]
          congr 1
          omega
theorem fill_all {s : Nat} : ∀ (vs : List Value) (k : Nat) (cs : Array Value), (∀ v ∈ vs, v.cells.size = s) → k * s + vs.length * s = cs.size →
    Instr.fill (fun i => some (i * s, s)) cs (ivs k vs) = some (cs.toList.take (k * s) ++ vs.flatMap (·.cells.toList)).toArray
  | [], k, cs, _, hk => by
    simp at hk
    simp only [ivs, Instr.fill, List.flatMap_nil, List.append_nil, hk]
    rw [List.take_of_length_le (by simp)]
  | v :: vs, k, cs, hv, hk => by
    have hs : v.cells.size = s := hv v (by simp)
    have hk2 : (k + 1) * s + vs.length * s = cs.size := by rw [List.length_cons] at hk; rw [← hk, Nat.add_mul, Nat.add_mul]; omega
    have hle : k * s + s ≤ cs.size := by rw [Nat.add_mul] at hk2; omega
    simp only [ivs, Instr.fill]
    rw [if_neg (by simp [hs]; omega)]
    have hf := foldl_put (k * s) v.cells.toList 0 cs (by simp [hs]; omega)
    simp only [Nat.add_zero, Array.length_toList, hs] at hf
    rw [← Array.foldl_toList, Array.toList_zipIdx]
    have e : (fun cs (x : Value × Nat) => match x with | (c, j) => cs.setIfInBounds (k * s + j) c) = (fun (cs : Array Value) (p : Value × Nat) => cs.setIfInBounds (k * s + p.2) p.1) := rfl
    rw [hf]
    have hsz : (cs.toList.take (k * s) ++ v.cells.toList ++ cs.toList.drop (k * s + s)).toArray.size = cs.size := by
      simp [hs]
      omega
    rw [fill_all vs (k + 1) _ (fun u hu => hv u (by simp [hu])) (by rw [hsz]; exact hk2)]
    simp only [List.flatMap_cons]
    congr 2
    rw [← List.append_assoc]
    congr 1
    rw [show (k + 1) * s = k * s + s by rw [Nat.add_mul]; omega]
    have h1 : (cs.toList.take (k * s)).length = k * s := by rw [List.length_take]; simp; omega
    have h2 : (cs.toList.take (k * s) ++ v.cells.toList).length = k * s + s := by rw [List.length_append, h1]; simp [hs]
    rw [List.take_append_of_le_length (by rw [h2]; exact Nat.le_refl _), List.take_of_length_le (by rw [h2]; exact Nat.le_refl _)]

theorem own_to_sl {α : Type} {T : TypeId} {s : Nat} {enc : α → List Value} {v : Value} {l : List α} : ∀ (w : World) (G : Nat → Prop), (own T s enc v l).pred w G → (sl s enc v l).pred w G := fun _ _ h => own_sl h

section
variable {P : Program} {N : Nat} {w0 : World} {M H : Nat → Prop} {E : Env} {Γ R : Ctx} {Q : Exit → Act → World → Prop}
variable {ops : Array Oper} {rest : List Oper} {T : TypeId} {ps : String} {af : Array Edge} {d : Nat} {op : Op}

/-- A slice of n elements, written out in order. -/
theorem ms_bslice {α : Type} {S U n : Nat} {D : TypeDesc} {z : Value} {s bb : Nat} (enc : α → List Value) (es : List α) {parts : List (Nat × Operand)} {pvs : List (Nat × Value)} (hS : P.underlying S = some (.slice U)) (hU : TI P U D z s bb) (hs : z.cells.size = s) (hs0 : 0 < s) (he : ∀ x, (enc x).length = s) (hn : es.length = n) (hn0 : 0 < n) (hsb : n * s ≤ 1000000)
    (hx : evps E parts = some pvs) (hi : ivs 0 (pvs.map (·.2)) = pvs) (hv : (pvs.map (·.2)).map (·.cells.toList) = es.map enc) : MS P N w0 M H E Γ R ⟨some d, .buildSlice S n parts.toArray, T, ps, af, none⟩ (X := SV) (fun _ => True) (fun v' => sv v') (fun v' => (d, own U s enc (sv v') es) :: Γ) (fun _ => R) := by
  obtain ⟨vs, hvs0⟩ : ∃ vs, pvs.map (·.2) = vs := ⟨_, rfl⟩
  rw [hvs0] at hi hv
  subst hi
  clear hvs0
  have hlen : vs.length = n := by rw [← hn]; have := congrArg List.length hv; simpa using this
  have hvs : ∀ v ∈ vs, v.cells.size = s := by
    intro v hm
    have : v.cells.toList ∈ es.map enc := by rw [← hv]; exact List.mem_map.2 ⟨v, hm, rfl⟩
    obtain ⟨x, _, hx⟩ := List.mem_map.1 this
    have h1 := congrArg List.length hx
    rw [he] at h1
    simpa using h1.symm
  have hfm : vs.flatMap (·.cells.toList) = es.flatMap enc := by
    rw [List.flatMap_def, List.flatMap_def, hv]
  refine ms_gen fun a w hE hC => ⟨⟨some ⟨w.heap.size, 0, none⟩, n, n⟩, w.alloc (.cells (vs.flatMap (·.cells.toList)).toArray U), trivial, ?_, ?_⟩
  · have hev := hE.evps hx
    have hfill := fill_all (s := s) vs 0 ((Array.range (n * s)).map (z.cells[· % z.cells.size]!)) hvs (by simp [hlen])
    simp only [Nat.zero_mul, List.take_zero, List.nil_append] at hfill
    have hns : ¬ n * s = 0 := by
      have := Nat.mul_pos hn0 hs0
      omega
    have hb : ¬ 16777216 < n * s := by omega
    have hns1 : ¬ (n = 0 ∨ s = 0) := by omega
    simp [execOp, Instr.buildSlice, run_underlying hS, hU.sizeOf, hU.zero, newRow, hb, hev, hfill, hns1, sv]
    intro h0
    exact absurd h0 hns
  · subst hn
    refine hC.new (Touch.alloc _ _ _) ⟨_, own_new (S := U) (s := s) (enc := enc) (l := es) (cap := es.length) (flatMap_len he es) (by rw [hfm]; simp [flatMap_len he]) (Nat.le_refl _) (by unfold maxLen; have : es.length * 1 ≤ es.length * s := Nat.mul_le_mul_left _ hs0; omega) (by rw [hfm]; exact List.take_of_length_le (by simp [flatMap_len he])), fun b hb => by subst hb; simp⟩
theorem r_bslice {α : Type} {S U n : Nat} {D : TypeDesc} {z : Value} {s bb : Nat} (enc : α → List Value) (es : List α) {parts : List (Nat × Operand)} {pvs : List (Nat × Value)} (hS : P.underlying S = some (.slice U)) (hU : TI P U D z s bb) (hs : z.cells.size = s) (hs0 : 0 < s) (he : ∀ x, (enc x).length = s) (hn : es.length = n) (hn0 : 0 < n) (hsb : n * s ≤ 1000000)
    (hx : evps E parts = some pvs) (hi : ivs 0 (pvs.map (·.2)) = pvs) (hv : (pvs.map (·.2)).map (·.cells.toList) = es.map enc) (hd : Nat.blt d N = true) (k : ∀ v' : SV, At N w0 M H ((d, sv v') :: E) ((d, own U s enc (sv v') es) :: Γ) R (wpList P ops Q rest)) : At N w0 M H E Γ R (wpList P ops Q (⟨some d, .buildSlice S n parts.toArray, T, ps, af, none⟩ :: rest)) :=
  r_ms (ms_bslice enc es hS hU hs hs0 he hn hn0 hsb hx hi hv) hd fun v' _ => k v'

theorem r_split {Rel : Act → World → Prop} {t : Nat} {b : Bool} (ht : eget E t = some (.bool b)) (h1 : b = true → At N w0 M H ((t, .bool true) :: E) Γ R Rel) (h2 : b = false → At N w0 M H ((t, .bool false) :: E) Γ R Rel) : At N w0 M H E Γ R Rel := by
  have key : ∀ c, b = c → At N w0 M H ((t, .bool c) :: E) Γ R Rel → At N w0 M H E Γ R Rel := by
    rintro c rfl h
    refine h.weak (fun a hE => ⟨hE.defers, hE.size, fun s v hv => ?_⟩) fun _ h => h
    simp only [eget] at hv
    cases hb : Nat.beq t s with
    | true =>
      rw [hb] at hv
      rw [← Nat.eq_of_beq_eq_true hb]
      simp at hv
      subst hv
      exact hE.slot t _ ht
    | false => rw [hb] at hv; exact hE.slot s v hv
  cases hb : b with
  | true => exact key true hb (h1 hb)
  | false => exact key false hb (h2 hb)
theorem r_gyes {l : List Oper} {dst : Option Tmp} {i t : Nat} {c : Bool} (hi : gslot l i = some t) (ht : eget E t = some (.bool c)) (h : At N w0 M H E Γ R (wpList P l.toArray Q (⟨dst, op, T, ps, af, none⟩ :: rest))) :
    At N w0 M H E Γ R (wpList P l.toArray Q (⟨dst, op, T, ps, af, some (i, c)⟩ :: rest)) := by
  intro a w hE hC
  have hyd := hE.yield hi ht
  have := h a w hE hC
  unfold wpList at this ⊢
  rw [if_pos (by simp [Region.wanted])] at this
  rw [if_pos (by simp [Region.wanted, hyd])]
  exact this
theorem r_gno {l : List Oper} {i t : Nat} {c b : Bool} (hi : gslot l i = some t) (ht : eget E t = some (.bool b)) (hb : b = !c) (hd : Nat.blt d N = true) (h : At N w0 M H ((d, undef) :: E) Γ R (wpList P l.toArray Q rest)) :
    At N w0 M H E Γ R (wpList P l.toArray Q (⟨some d, op, T, ps, af, some (i, c)⟩ :: rest)) := by
  intro a w hE hC
  have hyd := hE.yield hi ht
  subst hb
  unfold wpList
  rw [if_neg (by simp [Region.wanted, hyd])]
  exact h _ _ (hE.put hd undef) hC
theorem r_gno0 {l : List Oper} {i t : Nat} {c b : Bool} (hi : gslot l i = some t) (ht : eget E t = some (.bool b)) (hb : b = !c) (h : At N w0 M H E Γ R (wpList P l.toArray Q rest)) :
    At N w0 M H E Γ R (wpList P l.toArray Q (⟨none, op, T, ps, af, some (i, c)⟩ :: rest)) := by
  intro a w hE hC
  have hyd := hE.yield hi ht
  subst hb
  unfold wpList
  rw [if_neg (by simp [Region.wanted, hyd])]
  exact h _ _ hE hC
end
end Go.Proofs.Ytfdbkclbcajkiaa
