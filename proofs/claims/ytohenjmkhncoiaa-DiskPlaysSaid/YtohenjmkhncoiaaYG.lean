/-
  Snapshots in the heap. No condition.
-/
import Derived.Test.YtohenjmkhncoiaaYF
import Derived.Test.YtohenjmkhncoiaaY2
import Derived.Test.YtohenjmkhncoiaaYC
namespace Go.Proofs.Ytohenjmkhncoiaa
set_option linter.unusedSimpArgs false
set_option linter.unusedVariables false
open Go.RowKit

/-- A snapshot, with the slices that hold its lists. -/
structure Sp where
  kind : Int
  pc : Int
  f : Int
  steps : Int
  due : Int
  R : Nat → Int
  C : Nat → Int
  rights : List Int
  data : List ByteArray
  code : List ByteArray
  inputs : List Int
  outputs : List Int
  vr : SV
  vd : SV
  vc : SV
  vi : SV
  vo : SV
def stC (x : Sp) : List Value := [.int .u32 x.pc, .int .u32 (x.R 0), .int .u32 (x.R 1), .int .u32 (x.R 2), .int .u32 (x.R 3), .int .u32 (x.R 4), .int .u32 (x.R 5), .int .u32 (x.R 6), .int .u32 (x.R 7), .int .u32 (x.R 8), .int .u32 (x.R 9), .int .u32 (x.R 10), .int .u32 (x.R 11), .int .u32 (x.R 12), .int .u32 (x.R 13), .int .u32 (x.R 14), .int .u32 (x.R 15), .int .u32 x.f, .int .u32 (x.C 0), .int .u32 (x.C 1), .int .u32 (x.C 2), .int .u32 (x.C 3), .int .i64 x.steps, .int .i64 x.due]
def snC (x : Sp) : List Value := [.int .i64 x.kind, .int .u32 x.pc, .int .u32 (x.R 0), .int .u32 (x.R 1), .int .u32 (x.R 2), .int .u32 (x.R 3), .int .u32 (x.R 4), .int .u32 (x.R 5), .int .u32 (x.R 6), .int .u32 (x.R 7), .int .u32 (x.R 8), .int .u32 (x.R 9), .int .u32 (x.R 10), .int .u32 (x.R 11), .int .u32 (x.R 12), .int .u32 (x.R 13), .int .u32 (x.R 14), .int .u32 (x.R 15), .int .u32 x.f, .int .u32 (x.C 0), .int .u32 (x.C 1), .int .u32 (x.C 2), .int .u32 (x.C 3), .int .i64 x.steps, .int .i64 x.due, sv x.vr, sv x.vd, sv x.vc, sv x.vi, sv x.vo]
abbrev snV (x : Sp) : Value := .agg (snC x).toArray
def Sp.sn (x : Sp) : Sn := ⟨x.kind, x.steps, x.due, x.pc, x.f, (List.range 16).map x.R, (List.range 4).map x.C, x.rights, x.data.map bytesI, x.code.map bytesI, x.inputs, x.outputs⟩
def zSp : Sp := ⟨0, 0, 0, 0, 0, fun _ => 0, fun _ => 0, [], [], [], [], [], nilS, nilS, nilS, nilS, nilS⟩
/-- A part of what F lets read. -/
def SlIn {α : Type} (w : World) (F : Nat → Prop) (s : Nat) (enc : α → List Value) (v : Value) (l : List α) : Prop := ∃ G : Nat → Prop, SlOk w G s enc v l ∧ ∀ b, G b → F b
theorem SlIn.stable {α : Type} {w w' : World} {F : Nat → Prop} {s : Nat} {enc : α → List Value} {v : Value} {l : List α} (h : SlIn w F s enc v l) (hs : ∀ b, F b → w'.heap[b]? = w.heap[b]?) : SlIn w' F s enc v l := by
  obtain ⟨G, h1, h2⟩ := h
  exact ⟨G, (sl s enc v l).stable h1 fun b hb => hs b (h2 b hb), h2⟩
theorem SlIn.mono {α : Type} {w : World} {F F' : Nat → Prop} {s : Nat} {enc : α → List Value} {v : Value} {l : List α} (h : SlIn w F s enc v l) (hs : ∀ b, F b → F' b) : SlIn w F' s enc v l := by
  obtain ⟨G, h1, h2⟩ := h
  exact ⟨G, h1, fun b hb => hs b (h2 b hb)⟩
def SnIn (w : World) (F : Nat → Prop) (x : Sp) : Prop := SlIn w F 1 eI (sv x.vr) x.rights ∧ SlIn w F 1 eS (sv x.vd) x.data ∧ SlIn w F 1 eS (sv x.vc) x.code ∧ SlIn w F 1 eU (sv x.vi) x.inputs ∧ SlIn w F 1 eU (sv x.vo) x.outputs
/-- The lists of a snapshot can be read. -/
def snA (x : Sp) : Asn := ⟨fun w F => SnIn w F x, fun h hs => ⟨h.1.stable hs, h.2.1.stable hs, h.2.2.1.stable hs, h.2.2.2.1.stable hs, h.2.2.2.2.stable hs⟩⟩
theorem snA_r {x : Sp} : ∀ w G, (snA x).pred w G → (∀ b, G b → b < w.heap.size) → ∃ G', (sl 1 eI (sv x.vr) x.rights).pred w G' ∧ ∀ b, G' b → G b := fun w G h _ => h.1
theorem snA_d {x : Sp} : ∀ w G, (snA x).pred w G → (∀ b, G b → b < w.heap.size) → ∃ G', (sl 1 eS (sv x.vd) x.data).pred w G' ∧ ∀ b, G' b → G b := fun w G h _ => h.2.1
theorem snA_c {x : Sp} : ∀ w G, (snA x).pred w G → (∀ b, G b → b < w.heap.size) → ∃ G', (sl 1 eS (sv x.vc) x.code).pred w G' ∧ ∀ b, G' b → G b := fun w G h _ => h.2.2.1
theorem snA_i {x : Sp} : ∀ w G, (snA x).pred w G → (∀ b, G b → b < w.heap.size) → ∃ G', (sl 1 eU (sv x.vi) x.inputs).pred w G' ∧ ∀ b, G' b → G b := fun w G h _ => h.2.2.2.1
theorem snA_o {x : Sp} : ∀ w G, (snA x).pred w G → (∀ b, G b → b < w.heap.size) → ∃ G', (sl 1 eU (sv x.vo) x.outputs).pred w G' ∧ ∀ b, G' b → G b := fun w G h _ => h.2.2.2.2
theorem slIn_nil {α : Type} {w : World} {F : Nat → Prop} {s : Nat} {enc : α → List Value} : SlIn w F s enc (sv nilS) ([] : List α) := ⟨fun _ => False, ⟨0, by simp, by unfold maxLen; omega, .inl ⟨rfl, fun _ h => h, rfl⟩⟩, fun _ h => h.elim⟩
theorem snA_zero {w : World} : (snA zSp).pred w (fun _ => False) := ⟨slIn_nil, slIn_nil, slIn_nil, slIn_nil, slIn_nil⟩
section
variable {P : Program} {N : Nat} {w0 : World} {M H : Nat → Prop} {E : Env} {Γ R : Ctx}
/-- What needs nothing can always be read. -/
theorem r_addR (r : Nat) {A : Asn} {Rel : Act → World → Prop} (hA : ∀ w, A.pred w (fun _ => False)) (h : At N w0 M H E Γ ((r, A) :: R) Rel) : At N w0 M H E Γ R Rel := fun a w hE ⟨F, hF⟩ => h a w hE ⟨F, hF.touch, hF.has, hF.lt, hF.mine, hF.apart, fun j D hj => by
  simp only [cget] at hj
  cases hb : Nat.beq r j with
  | true =>
    rw [hb] at hj
    simp at hj
    subst hj
    exact ⟨fun _ => False, hA w, fun b hb => hb.elim⟩
  | false => rw [hb] at hj; exact hF.ro j D hj⟩
theorem r_joinR (r1 r2 r : Nat) {A B C : Asn} {Rel : Act → World → Prop} (h1 : cget R r1 = some A) (h2 : cget R r2 = some B) (hC : ∀ (w : World) (GA GB : Nat → Prop), A.pred w GA → B.pred w GB → C.pred w fun b => GA b ∨ GB b) (h : At N w0 M H E Γ ((r, C) :: R) Rel) : At N w0 M H E Γ R Rel :=
  fun a w hE hO => h a w hE (hO.joinR h1 h2 fun GA GB => hC w GA GB)
def slInA {α : Type} (s : Nat) (enc : α → List Value) (v : Value) (l : List α) (B : Asn) : Asn := ⟨fun w F => SlIn w F s enc v l ∧ B.pred w F, fun h hs => ⟨h.1.stable hs, B.stable h.2 hs⟩⟩
theorem COk.roGet {w : World} (h : COk w0 M H Γ R w) {r : Nat} {A : Asn} (h1 : cget R r = some A) : ∃ F, Own w0 M H (cget Γ) (cget R) w F := h
/-- A snapshot's lists, from its parts. -/
theorem r_mkSn (r1 r2 r3 r4 r5 r : Nat) {x : Sp} {Rel : Act → World → Prop} (h1 : cget R r1 = some (sl 1 eI (sv x.vr) x.rights)) (h2 : cget R r2 = some (sl 1 eS (sv x.vd) x.data)) (h3 : cget R r3 = some (sl 1 eS (sv x.vc) x.code)) (h4 : cget R r4 = some (sl 1 eU (sv x.vi) x.inputs)) (h5 : cget R r5 = some (sl 1 eU (sv x.vo) x.outputs)) (h : At N w0 M H E Γ ((r, snA x) :: R) Rel) : At N w0 M H E Γ R Rel := fun a w hE ⟨F, hF⟩ => h a w hE ⟨F, hF.touch, hF.has, hF.lt, hF.mine, hF.apart, fun j D hj => by
  simp only [cget] at hj
  cases hb : Nat.beq r j with
  | true =>
    rw [hb] at hj
    simp at hj
    subst hj
    obtain ⟨G1, p1, q1⟩ := hF.ro r1 _ h1
    obtain ⟨G2, p2, q2⟩ := hF.ro r2 _ h2
    obtain ⟨G3, p3, q3⟩ := hF.ro r3 _ h3
    obtain ⟨G4, p4, q4⟩ := hF.ro r4 _ h4
    obtain ⟨G5, p5, q5⟩ := hF.ro r5 _ h5
    refine ⟨fun b => G1 b ∨ G2 b ∨ G3 b ∨ G4 b ∨ G5 b, ⟨⟨G1, p1, fun b hb => .inl hb⟩, ⟨G2, p2, fun b hb => .inr (.inl hb)⟩, ⟨G3, p3, fun b hb => .inr (.inr (.inl hb))⟩, ⟨G4, p4, fun b hb => .inr (.inr (.inr (.inl hb)))⟩, ⟨G5, p5, fun b hb => .inr (.inr (.inr (.inr (hb))))⟩⟩, fun b hb => ?_⟩
    rcases hb with hb | hb | hb | hb | hb
    · exact q1 b hb
    · exact q2 b hb
    · exact q3 b hb
    · exact q4 b hb
    · exact q5 b hb
  | false => rw [hb] at hj; exact hF.ro j D hj⟩
end
/-- Storing a register. -/
def Sp.setR (x : Sp) (k : Nat) (u : Int) : Sp := { x with R := fun i => if i = k then u else x.R i }
def Sp.setC (x : Sp) (k : Nat) (u : Int) : Sp := { x with C := fun i => if i = k then u else x.C i }
theorem snC_len (x : Sp) : (snC x).length = 30 := rfl
theorem snC_setR (x : Sp) (k : Nat) (u : Int) (hk : k < 16) : (snC x).take (2 + k) ++ [Value.int .u32 u] ++ (snC x).drop (2 + k + [Value.int .u32 u].length) = snC (x.setR k u) := by
  have : k = 0 ∨ k = 1 ∨ k = 2 ∨ k = 3 ∨ k = 4 ∨ k = 5 ∨ k = 6 ∨ k = 7 ∨ k = 8 ∨ k = 9 ∨ k = 10 ∨ k = 11 ∨ k = 12 ∨ k = 13 ∨ k = 14 ∨ k = 15 := by omega
  rcases this with rfl | rfl | rfl | rfl | rfl | rfl | rfl | rfl | rfl | rfl | rfl | rfl | rfl | rfl | rfl | rfl <;> rfl
theorem snC_setC (x : Sp) (k : Nat) (u : Int) (hk : k < 4) : (snC x).take (19 + k) ++ [Value.int .u32 u] ++ (snC x).drop (19 + k + [Value.int .u32 u].length) = snC (x.setC k u) := by
  have : k = 0 ∨ k = 1 ∨ k = 2 ∨ k = 3 := by omega
  rcases this with rfl | rfl | rfl | rfl <;> rfl
/-- The words of a state, compared. -/
theorem range_all (n : Nat) (f g : Nat → Int) : ((List.range n).all fun j => decide (f j = g j)) = decide ((List.range n).map f = (List.range n).map g) := by
  rw [Bool.eq_iff_iff, List.all_eq_true, decide_eq_true_eq]
  constructor
  · intro h
    apply List.map_congr_left
    intro j hj
    simpa using h j hj
  · intro h j hj
    have := (List.map_inj_left.1 h) j hj
    simpa using this
structure StEq (x y : Sp) : Prop where
  pc : x.pc = y.pc
  R : (List.range 16).map x.R = (List.range 16).map y.R
  f : x.f = y.f
  C : (List.range 4).map x.C = (List.range 4).map y.C
  steps : x.steps = y.steps
  due : x.due = y.due
instance (x y : Sp) : Decidable (StEq x y) := if h : x.pc = y.pc ∧ (List.range 16).map x.R = (List.range 16).map y.R ∧ x.f = y.f ∧ (List.range 4).map x.C = (List.range 4).map y.C ∧ x.steps = y.steps ∧ x.due = y.due then isTrue ⟨h.1, h.2.1, h.2.2.1, h.2.2.2.1, h.2.2.2.2.1, h.2.2.2.2.2⟩ else isFalse fun e => h ⟨e.pc, e.R, e.f, e.C, e.steps, e.due⟩
theorem bytesI_inj {a b : ByteArray} (h : bytesI a = bytesI b) : a = b := by
  obtain ⟨⟨a⟩⟩ := a
  obtain ⟨⟨b⟩⟩ := b
  unfold bytesI at h
  have h2 : a = b := by
    refine (List.map_inj_right (f := fun c : UInt8 => ((c.toNat : Nat) : Int)) ?_).1 h
    intro x y hxy
    have hxy' : ((x.toNat : Nat) : Int) = (y.toNat : Int) := hxy
    exact UInt8.toNat_inj.1 (by omega)
  rw [h2]
theorem map_bytesI_inj {a b : List ByteArray} (h : a.map bytesI = b.map bytesI) : a = b := (List.map_inj_right (fun x y => bytesI_inj)).1 h

end Go.Proofs.Ytohenjmkhncoiaa
