/-
  Openings of lists of lists, of events, of calls of a disk, of two lists. No condition.
-/
import Derived.Test.YtohenjmkhncoiaaOI
import Derived.Test.YtohenjmkhncoiaaOQ
import Derived.Test.YtohenjmkhncoiaaF
namespace Go.Proofs.Ytohenjmkhncoiaa
set_option linter.unusedSimpArgs false
set_option linter.unusedVariables false
open Go.ChangeShapes Go.WideShapes Go.ChangeAt Go.RowKit

section
variable {H : Type} {enc : TypeId × Value → H} {P : Program}
theorem cell_addr {w : World} {a : Addr} {u : Value} (h : w.cell? a = some u) : a.spot = none ∧ a.block < w.heap.size := by
  unfold World.cell? at h
  cases hb : w.heap[a.block]? with
  | none => rw [hb] at h; simp at h
  | some o =>
    have hlt : a.block < w.heap.size := (Array.getElem?_eq_some_iff.1 hb).1
    rw [hb] at h
    cases o with
    | cells c e z =>
      dsimp only at h
      refine ⟨?_, hlt⟩
      cases hs : a.spot with
      | none => rfl
      | some q => rw [hs] at h; simp at h
    | _ => simp at h
/-- A list, element by element. -/
theorem open_gen {α : Type} {sz : Nat} {ec : α → List Value} {Ok : α → Prop} (a0 : α) (hlen : ∀ x, (ec x).length = sz) {W : World} {r : Reach} {b0 base : Nat} {held : Bool} {t e : TypeId} {v : Value} {d : DataW H} {p : List MemPlace} (ht : P.underlying t = some (.slice e)) (hce : P.cellsOf e = sz)
    (hv : Value.okWide P W r b0 t v) (h : DataW.Trod enc P W base (fun _ => true) held t v d p) (hE : ∀ n cs y, DataW.trod enc P W base (fun _ => true) held n e cs = some y → ∃ q : α, Ok q ∧ cs = ec q) :
    ∃ (x : SV) (s : List α), v = sv x ∧ (∀ q ∈ s, Ok q) ∧ ∃ G : Nat → Prop, SlOk W G sz ec (sv x) s ∧ ∀ b, G b → b < W.heap.size := by
  have hv' : Cell.ok P W r b0 t v := by
    have : Cell.okWide P W r b0 t v := by simpa [Value.okWide, ht] using hv
    simpa [Cell.okWide, ht] using this
  obtain ⟨va, vn, vc, rfl⟩ : ∃ a n c, v = .slice a n c := by
    cases v with
    | slice a n c => exact ⟨a, n, c, rfl⟩
    | _ => simp [Cell.ok, ht] at hv'
  obtain ⟨fuel, hf⟩ := h
  rcases DataW.trod_slice ht hf with ⟨hc, -⟩ | ⟨a, len, cap, elems, rest, n, -, hc, -, h1, h2, h3, h4, h5, -, -⟩
  · simp [Value.cells] at hc
    obtain ⟨rfl, rfl, rfl⟩ := hc
    exact ⟨⟨none, 0, 0⟩, [], rfl, by simp, fun _ => False, ⟨0, by simp, by unfold maxLen; omega, .inl ⟨rfl, fun _ h => h, rfl⟩⟩, fun _ h => h.elim⟩
  · simp [Value.cells] at hc
    obtain ⟨rfl, rfl, rfl⟩ := hc
    have hh : W.has P r b0 a e vc := by
      simp [Cell.ok, ht] at hv'
      exact hv'.2.2
    obtain ⟨hs, hb⟩ := has_lt hh
    obtain ⟨ab, ao, asp⟩ := a
    dsimp only at hs hb
    subst hs
    have hq : ∀ i, i < vn → ∃ q : α, Ok q ∧ ∀ o u, (ec q)[o]? = some u → W.cell? ⟨ab, ao + (i * sz + o), none⟩ = some u := by
      intro i hi
      have h6 := h5 i hi
      rw [hce, List.getElem?_eq_getElem (by omega)] at h6
      cases hcs : W.cells? base ((⟨ab, ao, none⟩ : Addr).add (i * sz)) sz with
      | none => rw [hcs] at h6; simp at h6
      | some cs =>
        rw [hcs] at h6
        obtain ⟨q, hq1, hq2⟩ := hE n cs _ h6
        obtain ⟨_, hl, hcell⟩ := World.cells?_some hcs
        refine ⟨q, hq1, fun o u ho => ?_⟩
        have ho' : o < sz := by
          rw [← hlen q]
          rcases Nat.lt_or_ge o (ec q).length with h | h
          · exact h
          · rw [List.getElem?_eq_none (by omega)] at ho; cases ho
        have h7 := hcell o ho'
        rw [add_lit', add_lit'] at h7
        rw [show ao + (i * sz + o) = ao + i * sz + o by omega, h7, hq2]
        exact ho
    obtain ⟨f, hf1, hf2⟩ : ∃ f : Nat → α, (∀ i, i < vn → Ok (f i)) ∧ ∀ i, i < vn → ∀ o u, (ec (f i))[o]? = some u → W.cell? ⟨ab, ao + (i * sz + o), none⟩ = some u := by
      refine ⟨fun i => if h : i < vn then Classical.choose (hq i h) else a0, fun i hi => ?_, fun i hi => ?_⟩
      · simp only [hi, dif_pos]
        exact (Classical.choose_spec (hq i hi)).1
      · simp only [hi, dif_pos]
        exact (Classical.choose_spec (hq i hi)).2
    have hll : ((List.range vn).map f).length = vn := by simp
    refine ⟨⟨some ⟨ab, ao, none⟩, vn, vc⟩, (List.range vn).map f, rfl, fun q hq => ?_, fun b => b = ab, ⟨vc, by rw [hll]; exact h2, h3, .inr ⟨ab, ao, by rw [hll]; rfl, rfl, fun j u hj => ?_⟩⟩, fun b hb' => hb' ▸ hb⟩
    · obtain ⟨i, hi, rfl⟩ := List.mem_map.1 hq
      exact hf1 i (List.mem_range.1 hi)
    · rcases Nat.eq_zero_or_pos sz with hz | hz
      · have : ((List.range vn).map f).flatMap ec = [] := List.flatMap_eq_nil_iff.2 fun x _ => List.eq_nil_of_length_eq_zero (by rw [hlen, hz])
        rw [this] at hj
        simp at hj
      · have hjl : j < vn * sz := by
          have := flatMap_len hlen ((List.range vn).map f)
          rcases Nat.lt_or_ge j (((List.range vn).map f).flatMap ec).length with h | h
          · rw [this, hll] at h; exact h
          · rw [List.getElem?_eq_none h] at hj; cases hj
        have hi : j / sz < vn := (Nat.div_lt_iff_lt_mul hz).2 hjl
        have ho : j % sz < sz := Nat.mod_lt _ hz
        have hjj : j / sz * sz + j % sz = j := by rw [Nat.mul_comm]; exact Nat.div_add_mod j sz
        have hget : ((List.range vn).map f)[j / sz]? = some (f (j / sz)) := by
          rw [List.getElem?_map, List.getElem?_range hi]
          rfl
        have he : (ec (f (j / sz)))[j % sz]? = some ((ec (f (j / sz)))[j % sz]'(by rw [hlen]; exact ho)) := List.getElem?_eq_getElem _
        have h8 := flatMap_at hlen ((List.range vn).map f) (j / sz) (j % sz) (f (j / sz)) _ hget he
        rw [hjj] at h8
        rw [h8] at hj
        cases hj
        have h9 := hf2 (j / sz) hi (j % sz) _ he
        rw [hjj] at h9
        exact h9
/-- A list within, with the slice that holds it. -/
structure Ql where
  v : SV
  l : List Int
def eQl (q : Ql) : List Value := [sv q.v]
def QlOk (W : World) (q : Ql) : Prop := (∀ n ∈ q.l, okI n) ∧ SlqIn W (fun b => b < W.heap.size) q.v q.l
theorem open_ql {W : World} {base : Nat} {held : Bool} {e u : TypeId} (he : P.underlying e = some (.slice u)) (hu : P.underlying u = some (.int .i64)) (hcu : P.cellsOf u = 1) : ∀ n cs y, DataW.trod enc P W base (fun _ => true) held n e cs = some y → ∃ q : Ql, QlOk W q ∧ cs = eQl q := by
  intro n cs y h
  rcases open_ints he hu hcu h with ⟨hc, -⟩ | ⟨a, len, cap, zs, hc, -, h1, h2, h3, -, h5, h6⟩
  · refine ⟨⟨nilS, []⟩, ⟨by simp, .inr ⟨rfl, rfl⟩⟩, by rw [hc]; rfl⟩
  · simp only [if_true] at h3
    refine ⟨⟨⟨some a, len, cap⟩, zs.take len⟩, ⟨fun n hn => i64_bd (h6 n (List.mem_of_mem_take hn)), ?_⟩, by rw [hc]; rfl⟩
    rcases Nat.eq_zero_or_pos len with hz | hz
    · subst hz
      exact .inr ⟨by simp, rfl⟩
    · have h0 := h5 0 (by omega)
      have hcell : W.cell? a = some (.int .i64 (zs.getD 0 0)) := by
        have : a.add 0 = a := by unfold Addr.add; simp
        rw [this] at h0
        exact h0
      obtain ⟨hs, hb⟩ := cell_addr hcell
      obtain ⟨ab, ao, asp⟩ := a
      dsimp only at hs hb
      subst hs
      have htl : (zs.take len).length = len := by rw [List.length_take]; omega
      refine .inl ⟨fun b => b = ab, ⟨cap, by rw [htl]; exact h1, h2, .inr ⟨ab, ao, by rw [htl]; rfl, rfl, fun j u hj => ?_⟩⟩, fun b hb' => hb' ▸ hb⟩
      have hfm : (zs.take len).flatMap eI = (zs.take len).map (Value.int .i64) := by
        induction zs.take len with
        | nil => rfl
        | cons x xs ih => simp [eI, ih]
      rw [hfm, List.getElem?_map] at hj
      have hjl : j < len := by
        rcases Nat.lt_or_ge j len with h | h
        · exact h
        · rw [List.getElem?_eq_none (by omega)] at hj; simp at hj
      have := h5 j (by omega)
      rw [add_lit'] at this
      rw [List.getElem?_take, if_pos hjl, List.getElem?_eq_getElem (by omega)] at hj
      rw [List.getD_eq_getElem?_getD, List.getElem?_eq_getElem (by omega)] at this
      simp at hj this
      rw [← hj, ← this]
end
/-- All lists within a list can be read. -/
def qlsA (s : List Ql) : Asn := ⟨fun w F => ∀ q ∈ s, SlqIn w F q.v q.l, fun h hs q hq => (h q hq).stable hs⟩
theorem qls_get {s : List Ql} {q : Ql} (hq : q ∈ s) : ∀ w G, (qlsA s).pred w G → (∀ b, G b → b < w.heap.size) → ∃ G', (slq q.v q.l).pred w G' ∧ ∀ b, G' b → G b := fun w G h _ => ⟨G, h q hq, fun _ hb => hb⟩
theorem qls_law {W : World} {s : List Ql} (h : ∀ q ∈ s, QlOk W q) : ∃ G : Nat → Prop, (qlsA s).pred W G ∧ ∀ b, G b → b < W.heap.size := ⟨fun b => b < W.heap.size, fun q hq => (h q hq).2, fun _ h => h⟩
/-- Events of a history. -/
structure Evt where
  what : Int
  n : Int
  q : Ql
def eEvt (x : Evt) : List Value := [.int .u8 x.what, .int .u8 x.n, sv x.q.v]
def EvtOk (W : World) (x : Evt) : Prop := (0 ≤ x.what ∧ x.what < 256) ∧ (0 ≤ x.n ∧ x.n < 256) ∧ QlOk W x.q
/-- Calls of a disk. -/
structure Opn where
  what : Int
  n : Int
  s : ByteArray
  q : Ql
def eOpn (x : Opn) : List Value := [.int .u8 x.what, .int .i64 x.n, .string x.s, sv x.q.v]
def OpnOk (W : World) (x : Opn) : Prop := (0 ≤ x.what ∧ x.what < 256) ∧ okI x.n ∧ QlOk W x.q
section
variable {H : Type} {enc : TypeId × Value → H}
theorem one_of {α : Type} {cs : List α} {o : Nat} {x : α} (h : (cs.drop o).take 1 = [x]) : cs[o]? = some x := by
  have : ((cs.drop o).take 1)[0]? = some x := by rw [h]; rfl
  rw [List.getElem?_take, if_pos (by omega), List.getElem?_drop] at this
  simpa using this
theorem three_of {α : Type} {cs : List α} {a b c : α} (hl : cs.length = 3) (h0 : cs[0]? = some a) (h1 : cs[1]? = some b) (h2 : cs[2]? = some c) : cs = [a, b, c] := by
  match cs, hl with
  | [x, y, z], _ => simp at h0 h1 h2; rw [h0, h1, h2]
theorem four_of {α : Type} {cs : List α} {a b c d : α} (hl : cs.length = 4) (h0 : cs[0]? = some a) (h1 : cs[1]? = some b) (h2 : cs[2]? = some c) (h3 : cs[3]? = some d) : cs = [a, b, c, d] := by
  match cs, hl with
  | [x, y, z, w], _ => simp at h0 h1 h2 h3; rw [h0, h1, h2, h3]
theorem open_evt (c5 : Try.prog.cellsOf 5 = 1) (c28 : Try.prog.cellsOf 28 = 1) (c3 : Try.prog.cellsOf 3 = 1) (c79 : Try.prog.cellsOf 79 = 3) {W : World} {base : Nat} {held : Bool} : ∀ n cs y, DataW.trod enc Try.prog W base (fun _ => true) held n 79 cs = some y → ∃ x : Evt, EvtOk W x ∧ cs = eEvt x := by
  intro n cs y h
  obtain ⟨xs, k, -, -, hl, hxl, hx⟩ := DataW.trod_struct t79.und h
  rw [c79] at hl
  have f0 : DataW.trod enc Try.prog W base (fun _ => true) held k 5 ((cs.drop 0).take (Try.prog.cellsOf 5)) = xs[0]? := hx 0 _ rfl
  have f1 : DataW.trod enc Try.prog W base (fun _ => true) held k 5 ((cs.drop 1).take (Try.prog.cellsOf 5)) = xs[1]? := hx 1 _ rfl
  have f2 : DataW.trod enc Try.prog W base (fun _ => true) held k 28 ((cs.drop 2).take (Try.prog.cellsOf 28)) = xs[2]? := hx 2 _ rfl
  have hx3 : xs.length = 3 := hxl
  rw [c5, List.getElem?_eq_getElem (by omega)] at f0 f1
  rw [c28, List.getElem?_eq_getElem (by omega)] at f2
  obtain ⟨a, ha, -, wa⟩ := DataW.trod_int Try.underlying5 f0
  obtain ⟨b, hb, -, wb⟩ := DataW.trod_int Try.underlying5 f1
  obtain ⟨q, hq, hqc⟩ := open_ql Try.underlying28 Try.underlying3 c3 _ _ _ f2
  exact ⟨⟨a, b, q⟩, ⟨u8_bd wa, u8_bd wb, hq⟩, three_of hl (one_of ha) (one_of hb) (one_of hqc)⟩
theorem open_opn (c5 : Try.prog.cellsOf 5 = 1) (c28 : Try.prog.cellsOf 28 = 1) (c9 : Try.prog.cellsOf 9 = 1) (c3 : Try.prog.cellsOf 3 = 1) (c30 : Try.prog.cellsOf 30 = 4) {W : World} {base : Nat} {held : Bool} : ∀ n cs y, DataW.trod enc Try.prog W base (fun _ => true) held n 30 cs = some y → ∃ x : Opn, OpnOk W x ∧ cs = eOpn x := by
  intro n cs y h
  obtain ⟨xs, k, -, -, hl, hxl, hx⟩ := DataW.trod_struct t30.und h
  rw [c30] at hl
  have f0 : DataW.trod enc Try.prog W base (fun _ => true) held k 5 ((cs.drop 0).take (Try.prog.cellsOf 5)) = xs[0]? := hx 0 _ rfl
  have f1 : DataW.trod enc Try.prog W base (fun _ => true) held k 3 ((cs.drop 1).take (Try.prog.cellsOf 3)) = xs[1]? := hx 1 _ rfl
  have f2 : DataW.trod enc Try.prog W base (fun _ => true) held k 9 ((cs.drop 2).take (Try.prog.cellsOf 9)) = xs[2]? := hx 2 _ rfl
  have f3 : DataW.trod enc Try.prog W base (fun _ => true) held k 28 ((cs.drop 3).take (Try.prog.cellsOf 28)) = xs[3]? := hx 3 _ rfl
  have hx4 : xs.length = 4 := hxl
  rw [c5, List.getElem?_eq_getElem (by omega)] at f0
  rw [c3, List.getElem?_eq_getElem (by omega)] at f1
  rw [c9, List.getElem?_eq_getElem (by omega)] at f2
  rw [c28, List.getElem?_eq_getElem (by omega)] at f3
  obtain ⟨a, ha, -, wa⟩ := DataW.trod_int Try.underlying5 f0
  obtain ⟨b, hb, -, wb⟩ := DataW.trod_int Try.underlying3 f1
  obtain ⟨s, hs, -, -⟩ := DataW.trod_string Try.underlying9 f2
  obtain ⟨q, hq, hqc⟩ := open_ql Try.underlying28 Try.underlying3 c3 _ _ _ f3
  exact ⟨⟨a, b, s, q⟩, ⟨u8_bd wa, i64_bd wb, hq⟩, four_of hl (one_of ha) (one_of hb) (one_of hs) (one_of hqc)⟩
/-- Two lists, by value. -/
theorem open_two {P : Program} {t e u : TypeId} (ht : P.underlying t = some (.array 2 e)) (he : P.underlying e = some (.slice u)) (hu : P.underlying u = some (.int .i64)) (ce : P.cellsOf e = 1) (cu : P.cellsOf u = 1) (ct : P.cellsOf t = 2) {W : World} {r : Reach} {b0 base : Nat} {held : Bool} {v : Value} {d : DataW H} {p : List MemPlace} (hv : Value.okWide P W r b0 t v) (h : DataW.Trod enc P W base (fun _ => true) held t v d p) :
    ∃ a b : Ql, QlOk W a ∧ QlOk W b ∧ v = .agg #[sv a.v, sv b.v] := by
  obtain ⟨cs, rfl, hsz, _⟩ : ∃ cs, v = .agg cs ∧ cs.size = P.cellsOf t ∧ Row.okWide P W r b0 t cs := by
    simpa [Value.okWide, ht] using hv
  obtain ⟨fuel, hf⟩ := h
  obtain ⟨ys, m, -, -, hlen, hyl, hel⟩ := DataW.trod_array ht hf
  rw [ct] at hlen
  have f0 := hel 0 (by omega)
  have f1 := hel 1 (by omega)
  rw [ce, List.getElem?_eq_getElem (by omega)] at f0 f1
  obtain ⟨a, ha, hac⟩ := open_ql he hu cu _ _ _ f0
  obtain ⟨b, hb, hbc⟩ := open_ql he hu cu _ _ _ f1
  refine ⟨a, b, ha, hb, ?_⟩
  have e0 : cs.toList[0]? = some (sv a.v) := one_of (o := 0) (by rw [Nat.zero_mul] at hac; exact hac)
  have e1 : cs.toList[1]? = some (sv b.v) := one_of (o := 1) (by rw [Nat.one_mul] at hbc; exact hbc)
  have hl : cs.toList.length = 2 := hlen
  obtain ⟨l⟩ := cs
  congr 1
  dsimp only at e0 e1 hl
  match l, hl with
  | [x, y], _ =>
    simp at e0 e1
    rw [e0, e1]
end
end Go.Proofs.Ytohenjmkhncoiaa
