/-
  The rules of the logic for addresses, slices, append and make, literals, calls and returns. No condition.
-/
import Derived.Test.YtfdbkclbcajkiaaK2
import Derived.Laws.AppendOwnNone
namespace Go.Proofs.Ytfdbkclbcajkiaa
set_option linter.unusedSimpArgs false
set_option linter.unusedVariables false
open Go.RowKit

/-- Field i of the struct S begins at cell off. -/
structure FO (P : Program) (S : TypeId) (i off : Nat) : Prop where
  ex : ∃ fields f n, P.underlying S = some (.struct fields) ∧ fields[i]? = some f ∧ f.offset = off ∧ (P.info? f.type).map (·.size) = some (n + 1)

section
variable {P : Program} {N : Nat} {w0 : World} {M H : Nat → Prop} {E : Env} {Γ R : Ctx} {Q : Exit → Act → World → Prop}
variable {ops : Array Oper} {rest : List Oper} {T : TypeId} {ps : String} {af : Array Edge} {d : Nat} {op : Op}

theorem FO.run {S : TypeId} {i off : Nat} (h : FO P S i off) (b o : Nat) (w : World) : (Instr.fieldAt S (.pointer (some ⟨b, o, none⟩)) i).run P w = .ok (.pointer (some ⟨b, o + off, none⟩)) w := by
  obtain ⟨fields, f, n, h1, h2, h3, h4⟩ := h.ex
  have hs : (sizeOf f.type).run P w = .ok (n + 1) w := by
    cases hi : P.info? f.type with
    | none => rw [hi] at h4; simp at h4
    | some t => rw [hi] at h4; simp at h4; simp [sizeOf, typeInfo, hi, h4]
  simp [Instr.fieldAt, run_underlying h1, h2, Instr.sureAddr, fieldPlace, hs, add_lit', h3]
theorem r_field0 {S : TypeId} {i off : Nat} {x : Operand} {b : Nat} (hf : FO P S i off) (hx : ev E x = some (.pointer (some ⟨b, 0, none⟩))) (hd : Nat.blt d N = true) (k : At N w0 M H ((d, .pointer (some ⟨b, off, none⟩)) :: E) Γ R (wpList P ops Q rest)) :
    At N w0 M H E Γ R (wpList P ops Q (⟨some d, .fieldAddr S x i, T, ps, af, none⟩ :: rest)) := r_pure hd (fun a w hE => by simp [execOp, hE.ev hx, hf.run]) k
theorem r_field {S : TypeId} {i off : Nat} {x : Operand} {b o : Nat} (hf : FO P S i off) (hx : ev E x = some (.pointer (some ⟨b, o, none⟩))) (hd : Nat.blt d N = true) (k : At N w0 M H ((d, .pointer (some ⟨b, o + off, none⟩)) :: E) Γ R (wpList P ops Q rest)) :
    At N w0 M H E Γ R (wpList P ops Q (⟨some d, .fieldAddr S x i, T, ps, af, none⟩ :: rest)) := r_pure hd (fun a w hE => by simp [execOp, hE.ev hx, hf.run]) k

theorem r_idx_arr {S U : TypeId} {D : TypeDesc} {z : Value} {s bb n b o j : Nat} {x y : Operand} {k : IntKind} {i : Int} (hS : P.underlying S = some (.array n U)) (hU : TI P U D z s bb) (hx : ev E x = some (.pointer (some ⟨b, o, none⟩))) (hy : ev E y = some (.int k i)) (hi : i = (j : Int)) (hj : j < n)
    (hd : Nat.blt d N = true) (kk : At N w0 M H ((d, .pointer (some ⟨b, o + j * s, none⟩)) :: E) Γ R (wpList P ops Q rest)) : At N w0 M H E Γ R (wpList P ops Q (⟨some d, .indexAddr S x y, T, ps, af, none⟩ :: rest)) :=
  r_pure hd (fun a w hE => by subst hi; simp [execOp, hE.ev hx, hE.ev hy, Instr.indexAt, asIntOf, run_underlying hS, Instr.sureAddr, hU.sizeOf, add_lit', hj]) kk
theorem r_idx_arr1 {S U : TypeId} {D : TypeDesc} {z : Value} {bb n b j : Nat} {x y : Operand} {k : IntKind} {i : Int} (hS : P.underlying S = some (.array n U)) (hU : TI P U D z 1 bb) (hx : ev E x = some (.pointer (some ⟨b, 0, none⟩))) (hy : ev E y = some (.int k i)) (hi : i = (j : Int)) (hj : j < n)
    (hd : Nat.blt d N = true) (kk : At N w0 M H ((d, .pointer (some ⟨b, j, none⟩)) :: E) Γ R (wpList P ops Q rest)) : At N w0 M H E Γ R (wpList P ops Q (⟨some d, .indexAddr S x y, T, ps, af, none⟩ :: rest)) :=
  r_pure hd (fun a w hE => by subst hi; simp [execOp, hE.ev hx, hE.ev hy, Instr.indexAt, asIntOf, run_underlying hS, Instr.sureAddr, hU.sizeOf, add_lit', hj]) kk
theorem r_idx_sl {α : Type} {S U : TypeId} {D : TypeDesc} {z : Value} {s bb j : Nat} {x y : Operand} {k : IntKind} {i : Int} {enc : α → List Value} {v : Value} {l : List α} (hS : P.underlying S = some (.slice U)) (hU : TI P U D z s bb) (hx : ev E x = some v) (hy : ev E y = some (.int k i)) (hs : HasSl Γ R s enc v l) (hi : i = (j : Int)) (hj : j < l.length)
    (hd : Nat.blt d N = true) (kk : At N w0 M H ((d, .pointer (some ⟨sblk v, soff v + j * s, none⟩)) :: E) Γ R (wpList P ops Q rest)) : At N w0 M H E Γ R (wpList P ops Q (⟨some d, .indexAddr S x y, T, ps, af, none⟩ :: rest)) :=
  r_gen (X := Unit) (fun _ => True) (fun _ => .pointer (some ⟨sblk v, soff v + j * s, none⟩)) (fun _ => Γ) (fun _ => R) hd (fun a w hE hC => ⟨(), w, trivial, by
    obtain ⟨G, c, h1, h2, h3⟩ := hs.ok hC
    rcases h3 with ⟨rfl, _⟩ | ⟨b, o, rfl, _, _⟩
    · simp at hj
    · subst hi
      simp [execOp, hE.ev hx, hE.ev hy, Instr.indexAt, asIntOf, run_underlying hS, hU.sizeOf, add_lit', hj, sblk, soff], hC⟩) fun _ _ => kk
theorem r_len_sl {α : Type} {S U : TypeId} {s : Nat} {x : Operand} {enc : α → List Value} {v : Value} {l : List α} (hS : P.underlying S = some (.slice U)) (hx : ev E x = some v) (hs : HasSl Γ R s enc v l)
    (hd : Nat.blt d N = true) (kk : At N w0 M H ((d, .int .i64 (l.length : Int)) :: E) Γ R (wpList P ops Q rest)) : At N w0 M H E Γ R (wpList P ops Q (⟨some d, .call { callee := .builtin .len, args := #[x], argTypes := #[S] }, T, ps, af, none⟩ :: rest)) :=
  r_gen (X := Unit) (fun _ => True) (fun _ => .int .i64 (l.length : Int)) (fun _ => Γ) (fun _ => R) hd (fun a w hE hC => ⟨(), w, trivial, by
    obtain ⟨G, c, h1, h2, h3⟩ := hs.ok hC
    rcases h3 with ⟨rfl, _, rfl⟩ | ⟨b, o, rfl, _, _⟩
    · simp [execOp, resolve, invoke, builtin, hE.ev hx, Builtin.len_, run_underlying hS, goInt]
    · simp [execOp, resolve, invoke, builtin, hE.ev hx, Builtin.len_, run_underlying hS, goInt], hC⟩) fun _ _ => kk
theorem r_len_str {S : TypeId} {x : Operand} {s : ByteArray} (hS : P.underlying S = some .string) (hx : ev E x = some (.string s))
    (hd : Nat.blt d N = true) (kk : At N w0 M H ((d, .int .i64 (s.size : Int)) :: E) Γ R (wpList P ops Q rest)) : At N w0 M H E Γ R (wpList P ops Q (⟨some d, .call { callee := .builtin .len, args := #[x], argTypes := #[S] }, T, ps, af, none⟩ :: rest)) :=
  r_pure hd (fun a w hE => by simp [execOp, resolve, invoke, builtin, hE.ev hx, Builtin.len_, run_underlying hS, goInt]) kk
theorem r_min {x y : Operand} {k : IntKind} {m n c : Int} {at_ : Array TypeId} (hx : ev E x = some (.int k m)) (hy : ev E y = some (.int k n)) (hc : min m n = c) (hd : Nat.blt d N = true) (kk : At N w0 M H ((d, .int k c) :: E) Γ R (wpList P ops Q rest)) :
    At N w0 M H E Γ R (wpList P ops Q (⟨some d, .call { callee := .builtin .min, args := #[x, y], argTypes := at_ }, T, ps, af, none⟩ :: rest)) :=
  r_pure hd (fun a w hE => by
    have : (if n < m then n else m) = c := by rw [← hc]; split <;> omega
    simp [execOp, resolve, invoke, builtin, hE.ev hx, hE.ev hy, Builtin.min_, Builtin.min2, this]) kk
theorem r_max {x y : Operand} {k : IntKind} {m n c : Int} {at_ : Array TypeId} (hx : ev E x = some (.int k m)) (hy : ev E y = some (.int k n)) (hc : max m n = c) (hd : Nat.blt d N = true) (kk : At N w0 M H ((d, .int k c) :: E) Γ R (wpList P ops Q rest)) :
    At N w0 M H E Γ R (wpList P ops Q (⟨some d, .call { callee := .builtin .max, args := #[x, y], argTypes := at_ }, T, ps, af, none⟩ :: rest)) :=
  r_pure hd (fun a w hE => by
    have : (if n > m then n else m) = c := by rw [← hc]; split <;> omega
    simp [execOp, resolve, invoke, builtin, hE.ev hx, hE.ev hy, Builtin.max_, Builtin.max2, this]) kk

/-! ### Values that are aggregates -/
theorem run_part1 {S : TypeId} {D : TypeDesc} {z : Value} {s bb o : Nat} {cs : Array Value} {u : Value} (ht : TI P S D z s bb) (hag : aggD D = false) (hu : cs[o]? = some u) (w : World) : (part S cs o).run P w = .ok u w := by
  simp [part, ht.isAgg, hag, hu]
theorem run_partA {S : TypeId} {D : TypeDesc} {z : Value} {s bb o : Nat} {cs us : Array Value} (ht : TI P S D z s bb) (hag : aggD D = true) (hu : cs.extract o (o + s) = us) (w : World) : (part S cs o).run P w = .ok (.agg us) w := by
  simp [part, ht.isAgg, hag, ht.sizeOf, hu]
/-- Field i of the struct S, of type U, begins at cell off. -/
def FT (P : Program) (S : TypeId) (i off : Nat) (U : TypeId) : Prop := ∃ fields f, P.underlying S = some (.struct fields) ∧ fields[i]? = some f ∧ f.offset = off ∧ f.type = U
theorem r_vfield {S U : TypeId} {D : TypeDesc} {z : Value} {i off s bb : Nat} {x : Operand} {cs : Array Value} {u : Value} (hf : FT P S i off U) (ht : TI P U D z s bb) (hx : ev E x = some (.agg cs)) (hu : (bif aggD D then some (.agg (cs.extract off (off + s))) else cs[off]?) = some u)
    (hd : Nat.blt d N = true) (kk : At N w0 M H ((d, u) :: E) Γ R (wpList P ops Q rest)) : At N w0 M H E Γ R (wpList P ops Q (⟨some d, .field S x i, T, ps, af, none⟩ :: rest)) :=
  r_pure hd (fun a w hE => by
    obtain ⟨fields, f, h1, h2, h3, h4⟩ := hf
    subst h4
    cases hag : aggD D with
    | true => rw [hag] at hu; simp at hu; simp [execOp, hE.ev hx, Instr.field, run_underlying h1, h2, asAgg, h3, run_partA ht hag rfl, hu]
    | false => rw [hag] at hu; simp at hu; simp [execOp, hE.ev hx, Instr.field, run_underlying h1, h2, asAgg, h3, run_part1 ht hag hu]) kk
theorem r_vindex {S U : TypeId} {D : TypeDesc} {z : Value} {n s bb j : Nat} {x y : Operand} {k : IntKind} {i : Int} {cs : Array Value} {u : Value} (hS : P.underlying S = some (.array n U)) (ht : TI P U D z s bb) (hx : ev E x = some (.agg cs)) (hy : ev E y = some (.int k i)) (hi : i = (j : Int)) (hj : j < n)
    (hu : (bif aggD D then some (.agg (cs.extract (j * s) (j * s + s))) else cs[j * s]?) = some u)
    (hd : Nat.blt d N = true) (kk : At N w0 M H ((d, u) :: E) Γ R (wpList P ops Q rest)) : At N w0 M H E Γ R (wpList P ops Q (⟨some d, .index S x y, T, ps, af, none⟩ :: rest)) :=
  r_pure hd (fun a w hE => by
    subst hi
    cases hag : aggD D with
    | true => rw [hag] at hu; simp at hu; simp [execOp, hE.ev hx, hE.ev hy, Instr.index, asIntOf, run_underlying hS, hj, ht.sizeOf, run_partA ht hag rfl, hu]
    | false => rw [hag] at hu; simp at hu; simp [execOp, hE.ev hx, hE.ev hy, Instr.index, asIntOf, run_underlying hS, hj, ht.sizeOf, run_part1 ht hag hu]) kk
/-- The places of the fields of a struct. -/
def PL (P : Program) (S : TypeId) (places : List (Nat × Nat)) : Prop := ∃ fields, P.underlying S = some (.struct fields) ∧ fields.toList.mapM (fun f => (P.info? f.type).map fun i => (f.offset, i.size)) = some places
def evps (E : Env) : List (Nat × Operand) → Option (List (Nat × Value))
  | [] => some []
  | (i, x) :: r => match ev E x, evps E r with
    | some v, some vs => some ((i, v) :: vs)
    | _, _ => none
theorem EOk.evps {a : Act} (h : EOk N E a) : ∀ {xs : List (Nat × Operand)} {vs : List (Nat × Value)}, Ytfdbkclbcajkiaa.evps E xs = some vs → xs.map (fun p => (p.1, a.eval p.2)) = vs
  | [], vs, e => by simp [Ytfdbkclbcajkiaa.evps] at e; simp [e]
  | (i, x) :: r, vs, e => by
    simp only [Ytfdbkclbcajkiaa.evps] at e
    cases hx : Ytfdbkclbcajkiaa.ev E x with
    | none => simp [hx] at e
    | some v =>
      cases hr : Ytfdbkclbcajkiaa.evps E r with
      | none => simp [hx, hr] at e
      | some us =>
        simp [hx, hr] at e
        subst e
        simp [h.ev hx, EOk.evps h hr]
theorem r_build {S : TypeId} {D : TypeDesc} {z : Value} {s bb : Nat} {places : List (Nat × Nat)} {parts : List (Nat × Operand)} {vs : List (Nat × Value)} {cs : Array Value} (ht : TI P S D z s bb) (hp : PL P S places) (hv : evps E parts = some vs) (hf : Instr.fill (fun i => places[i]?) z.cells vs = some cs)
    (hd : Nat.blt d N = true) (kk : At N w0 M H ((d, .agg cs) :: E) Γ R (wpList P ops Q rest)) : At N w0 M H E Γ R (wpList P ops Q (⟨some d, .build S parts.toArray, T, ps, af, none⟩ :: rest)) :=
  r_pure hd (fun a w hE => by
    obtain ⟨fields, h1, h2⟩ := hp
    obtain ⟨i, h3, h4, _, _⟩ := ht.info
    have hb : P.built S vs = some cs := by
      simp only [Program.built, h3, h1, h4, h2]
      simpa using hf
    have := run_build (P := P) w S vs.toArray cs (by simpa using hb)
    have hev := hE.evps hv
    simp [execOp, hev, this]) kk
theorem r_buildA {S U : TypeId} {D DU : TypeDesc} {z zu : Value} {n s bb su bu : Nat} {parts : List (Nat × Operand)} {vs : List (Nat × Value)} {cs : Array Value} (ht : TI P S (.array n U) z s bb) (hU : TI P U DU zu su bu) (hv : evps E parts = some vs) (hf : Instr.fill (fun i => some (i * su, su)) z.cells vs = some cs)
    (hd : Nat.blt d N = true) (kk : At N w0 M H ((d, .agg cs) :: E) Γ R (wpList P ops Q rest)) : At N w0 M H E Γ R (wpList P ops Q (⟨some d, .build S parts.toArray, T, ps, af, none⟩ :: rest)) :=
  r_pure hd (fun a w hE => by
    obtain ⟨i, h3, h4, _, _⟩ := ht.info
    obtain ⟨iu, h5, h6, h7, _⟩ := hU.info
    have hb : P.built S vs = some cs := by
      simp only [Program.built, h3, ht.und, h4, h5, h7]
      exact hf
    have := run_build (P := P) w S vs.toArray cs (by simpa using hb)
    have hev := hE.evps hv
    simp [execOp, hev, this]) kk

/-! ### Slices of the call's own -/
theorem own_new {α : Type} {S : TypeId} {s : Nat} {enc : α → List Value} {l : List α} {w : World} {cap : Nat} {cur : Array Value} (he : (l.flatMap enc).length = l.length * s) (hc : cur.size = cap * s) (hlc : l.length ≤ cap) (hm : cap ≤ maxLen) (ht : cur.toList.take (l.length * s) = l.flatMap enc) :
    (own S s enc (.slice (some ⟨w.heap.size, 0, none⟩) l.length cap) l).pred (w.alloc (.cells cur S)) (· = w.heap.size) :=
  ⟨fun x => by simp [Value.ownBlock, eq_comm], he, .inr ⟨w.heap.size, cap, cur, rfl, Nat.zero_le _, heap_alloc_new w _, hlc, hm, hc, ht⟩⟩
theorem fill_one {s : Nat} {v : Value} {zs : Array Value} (hv : v.cells.size = s) (hz : zs.size = s) : Instr.fill (fun i => some (i * s, s)) zs [(0, v)] = some v.cells := by
  have h : ∀ (l : List Value) (k : Nat) (cs : Array Value), k + l.length = cs.size → (l.zipIdx k).foldl (fun cs (p : Value × Nat) => cs.setIfInBounds (0 + p.2) p.1) cs = (cs.toList.take k ++ l).toArray := by
    intro l
    induction l with
    | nil => intro k cs hk; simp at hk; subst hk; simp only [List.zipIdx_nil, List.foldl_nil, List.append_nil]; rw [List.take_of_length_le (by simp)]
    | cons u l ih =>
      intro k cs hk
      simp only [List.zipIdx_cons, List.foldl_cons, Nat.zero_add]
      have h2 := ih (k + 1) (cs.setIfInBounds k u) (by simp at hk ⊢; omega)
      simp only [Nat.zero_add] at h2
      rw [h2]
      congr 1
      have hlt : k < cs.toList.length := by rw [Array.length_toList]; simp at hk; omega
      simp [List.take_set, List.take_succ_eq_append_getElem hlt]
      rw [List.set_append_right _ _ (by simp; omega)]
      have hmin : k - (List.take k cs.toList).length = 0 := by rw [List.length_take]; omega
      rw [hmin]
      simp
  simp only [Instr.fill]
  rw [if_neg (by simp [hv, hz])]
  have h2 := h v.cells.toList 0 zs (by simp [hv, hz])
  simp only [List.take_zero, List.nil_append, Array.toArray_toList] at h2
  congr 1
  rw [← Array.foldl_toList, Array.toList_zipIdx, Nat.zero_mul]
  exact h2
theorem r_bslice1 {α : Type} {S U : TypeId} {D : TypeDesc} {z : Value} {s bb : Nat} (enc : α → List Value) (e : α) {x : Operand} {v : Value} (hS : P.underlying S = some (.slice U)) (hU : TI P U D z s bb) (hs : z.cells.size = s) (hs0 : 0 < s) (hsb : s ≤ 1000000) (hx : ev E x = some v) (hv : v.cells.toList = enc e) (he : (enc e).length = s)
    (hd : Nat.blt d N = true) (k : ∀ v' : SV, At N w0 M H ((d, sv v') :: E) ((d, own U s enc (sv v') [e]) :: Γ) R (wpList P ops Q rest)) : At N w0 M H E Γ R (wpList P ops Q (⟨some d, .buildSlice S 1 #[(0, x)], T, ps, af, none⟩ :: rest)) :=
  r_gen (X := SV) (fun _ => True) (fun v' => sv v') (fun v' => (d, own U s enc (sv v') [e]) :: Γ) (fun _ => R) hd (fun a w hE hC => ⟨⟨some ⟨w.heap.size, 0, none⟩, 1, 1⟩, w.alloc (.cells v.cells U), trivial, by
    have hvs : v.cells.size = s := by rw [← he, ← hv]; simp
    have h0 : ¬ s = 0 := by omega
    have hzz : ((Array.range (1 * s)).map (z.cells[· % z.cells.size]!)).size = s := by simp
    have hf := fill_one (s := s) (v := v) hvs hzz
    simp only [Nat.one_mul] at hf
    have hb : ¬ 16777216 < s := by omega
    simp [execOp, hE.ev hx, Instr.buildSlice, run_underlying hS, hU.sizeOf, hU.zero, newRow, h0, hb, hf, sv], by
    have hvs : v.cells.size = s := by rw [← he, ← hv]; simp
    refine hC.new (Touch.alloc _ _ _) ⟨_, own_new (S := U) (s := s) (enc := enc) (l := [e]) (cap := 1) (by simpa using he) (by simpa using hvs) (by simp) (by simp [maxLen]) (by simp [hv]; rw [← he]; exact List.take_of_length_le (Nat.le_refl _)), fun b hb => by subst hb; simp⟩⟩) fun v' _ => k v'
theorem r_bslice0 {α : Type} {S U : TypeId} {D : TypeDesc} {z : Value} {s bb : Nat} (enc : α → List Value) (hS : P.underlying S = some (.slice U)) (hU : TI P U D z s bb)
    (hd : Nat.blt d N = true) (k : ∀ v' : SV, At N w0 M H ((d, sv v') :: E) ((d, own U s enc (sv v') []) :: Γ) R (wpList P ops Q rest)) : At N w0 M H E Γ R (wpList P ops Q (⟨some d, .buildSlice S 0 #[], T, ps, af, none⟩ :: rest)) :=
  r_gen (X := SV) (fun _ => True) (fun v' => sv v') (fun v' => (d, own U s enc (sv v') []) :: Γ) (fun _ => R) hd (fun a w hE hC => ⟨⟨some ⟨w.heap.size, 0, none⟩, 0, 0⟩, w.alloc (.cells #[] U), trivial, by
    simp [execOp, Instr.buildSlice, run_underlying hS, hU.sizeOf, newRow, Instr.fill, Array.range_zero', sv],
    hC.new (Touch.alloc _ _ _) ⟨_, own_new (S := U) (s := s) (enc := enc) (l := []) (cap := 0) (by simp) (by simp) (by simp) (by simp) (by simp), fun b hb => by subst hb; simp⟩⟩) fun v' _ => k v'

theorem r_append {α : Type} {S U : TypeId} {D : TypeDesc} {z : Value} {s bb : Nat} {enc : α → List Value} {x y : Operand} {v v2 : Value} {l l2 : List α} (k : Nat) (hS : P.underlying S = some (.slice U)) (hU : TI P U D z s bb) (hzs : z.cells.size = s) (hs0 : 0 < s) (he : ∀ x, (enc x).length = s) (h1 : ∀ x, (enc x).all (·.oneCell') = true)
    (hx : ev E x = some v) (hy : ev E y = some v2) (hk : cget Γ k = some (own U s enc v l)) (h2 : HasSl Γ R s enc v2 l2) (hm : (l.length + l2.length) * bb ≤ 140737488355328) (hm' : l.length + l2.length ≤ maxLen)
    (hd : Nat.blt d N = true) (kk : ∀ v' : SV, At N w0 M H ((d, sv v') :: E) ((k, own U s enc (sv v') (l ++ l2)) :: Γ) R (wpList P ops Q rest)) : At N w0 M H E Γ R (wpList P ops Q (⟨some d, .call { callee := .builtin .append, args := #[x, y], argTypes := #[S, S] }, T, ps, af, none⟩ :: rest)) := by
  refine r_gen (X := SV) (fun _ => True) (fun v' => sv v') (fun v' => (k, own U s enc (sv v') (l ++ l2)) :: Γ) (fun _ => R) hd (fun a w hE hC => ?_) fun v' _ => kk v'
  obtain ⟨G0, hp0, hlt0⟩ := hC.reads (.inl hk)
  obtain ⟨G2, c, h3, h4, h5⟩ := h2.ok hC
  obtain ⟨i, i1, i2, i3, i4⟩ := hU.info
  have hfl : ∀ l' : List α, (l'.flatMap enc).length = l'.length * s := flatMap_len he
  rcases h5 with ⟨rfl, _, rfl⟩ | ⟨b2, o2, rfl, _, hc2⟩
  · obtain ⟨xv, rfl⟩ := ownsRow_sv hp0.2
    refine ⟨xv, w, trivial, ?_, ?_⟩
    · have hr := run_append_owned_none (P := P) w 0 S T U i s hS i1 (sv xv) l.length _ hp0.2
      simp [execOp, resolve, invoke, builtin, hE.ev hx, hE.ev hy, hr]
    · simp only [List.append_nil]
      exact hC.upd hk fun G hG hGlt => ⟨G, hG, fun b hb => ⟨hGlt b hb, fun _ => hb⟩, Touch.refl _ _⟩
  · obtain ⟨v', w', hr, ho, hg, hn⟩ := run_append_own (P := P) w 0 S T U i z s bb hS i1 i2 i3 i4 hzs hs0 v l.length _ hp0.2 ⟨b2, o2, none⟩ l2.length c (l2.flatMap enc) (hfl l2)
      (fun j u hj => by rw [add_lit']; exact hc2 j u hj) (fun u hu => by obtain ⟨x, _, hxu⟩ := List.mem_flatMap.1 hu; simpa using List.all_eq_true.1 (h1 x) u hxu) hm' hm (Nat.zero_le _)
    obtain ⟨xv, rfl⟩ := ownsRow_sv ho
    refine ⟨xv, w', trivial, ?_, ?_⟩
    · simp [execOp, resolve, invoke, builtin, hE.ev hx, hE.ev hy, hr]
    · refine hC.upd hk fun G hG hGlt => ⟨fun b => (sv xv).ownBlock = some b, ⟨fun x => Iff.rfl, ?_⟩, fun b hb => ⟨(ho.lt b hb).2, fun hlt => ?_⟩, ⟨hg.os, hg.tape, hg.output, hg.size, fun i hi hne => hg.block i hi (fun e => hne ((hG.1 i).2 e.symm))⟩⟩
      · rw [List.length_append, List.flatMap_append]; exact ho
      · rcases hp0.2.2 with ⟨rfl, hl0⟩ | ⟨g, cap, cur, rfl, hbg, hgg, hnc, hcm, hcs, htake⟩
        · exfalso
          have hl : l = [] := List.eq_nil_of_length_eq_zero hl0
          subst hl
          by_cases hz : l2.length = 0
          · have hl2 : l2 = [] := List.eq_nil_of_length_eq_zero hz
            subst hl2
            have := (hn.2 ⟨rfl, rfl⟩)
            rw [this] at hb
            simp [Value.ownBlock] at hb
          · have hr2 := run_append_nil (P := P) w S T U i z hS i1 i2 ⟨b2, o2, none⟩ l2.length c (l2.flatMap enc) (by rw [hfl, i3]) (fun j u hj => by rw [add_lit']; exact hc2 j u hj) (by simpa using Nat.pos_of_ne_zero hz) (by simp only [maxLen] at hm'; simp at hm'; omega) (by rw [i4]; simp at hm; omega)
            rw [hr2] at hr
            injection hr with hr3 hr4
            replace hb : (sv xv).ownBlock = some b := hb
            rw [← hr3] at hb
            simp [Value.ownBlock] at hb
            omega
        · by_cases hroom : l.length + l2.length ≤ cap
          · have hfit : l.length * i.size + (l2.flatMap enc).length ≤ cur.size := by rw [hfl, hcs, i3, ← Nat.add_mul]; exact Nat.mul_le_mul_right _ hroom
            have hr2 := run_append_room (P := P) w S T U i hS i1 g l.length cap cur hgg ⟨b2, o2, none⟩ l2.length c (l2.flatMap enc) (by rw [hfl, i3]) (fun j u hj => by rw [add_lit']; exact hc2 j u hj) (fun u hu => by obtain ⟨x, _, hxu⟩ := List.mem_flatMap.1 hu; simpa using List.all_eq_true.1 (h1 x) u hxu) hroom hfit
            rw [hr2] at hr
            injection hr with hr3 hr4
            replace hb : (sv xv).ownBlock = some b := hb
            rw [← hr3] at hb
            simp [Value.ownBlock] at hb
            subst hb
            exact (hG.1 g).2 rfl
          · exfalso
            have holds := hp0.2.cells (g := g) rfl
            have hr2 := run_append_grow (P := P) w S T U i z hS i1 i2 ⟨g, 0, none⟩ l.length cap (l.flatMap enc) (by rw [hfl, i3]) holds ⟨b2, o2, none⟩ l2.length c (l2.flatMap enc) (by rw [hfl, i3]) (fun j u hj => by rw [add_lit']; exact hc2 j u hj) (by omega) (by simp only [maxLen] at hm'; omega) (growslice_fits (by omega) (by rw [i4]; exact hm))
            rw [hr2] at hr
            injection hr with hr3 hr4
            replace hb : (sv xv).ownBlock = some b := hb
            rw [← hr3] at hb
            simp [Value.ownBlock] at hb
            omega

end
end Go.Proofs.Ytfdbkclbcajkiaa
