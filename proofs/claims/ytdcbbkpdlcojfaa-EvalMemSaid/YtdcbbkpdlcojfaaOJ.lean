/-
  Openings of what is handed in. No condition.
-/
import Derived.Test.YtdcbbkpdlcojfaaZ0
import Derived.Test.YtdcbbkpdlcojfaaA6
import Derived.ChangeMaps5
namespace Go.Proofs.Ytdcbbkpdlcojfaa
set_option linter.unusedSimpArgs false
set_option linter.unusedVariables false
open Go.ChangeShapes Go.WideShapes Go.ChangeAt Go.RowKit

abbrev okI (n : Int) : Prop := -9223372036854775808 ≤ n ∧ n < 9223372036854775808
theorem i64_bd {n : Int} (h : (Lit.int .i64 n).wf = true) : okI n := by
  simp only [Lit.wf, Bool.and_eq_true, decide_eq_true_eq] at h
  have h1 : IntKind.i64.min = -9223372036854775808 := by decide
  have h2 : IntKind.i64.max = 9223372036854775807 := by decide
  rw [h1, h2] at h
  exact ⟨h.1, by omega⟩
theorem u16_bd {n : Int} (h : (Lit.int .u16 n).wf = true) : 0 ≤ n ∧ n < 65536 := by
  simp only [Lit.wf, Bool.and_eq_true, decide_eq_true_eq] at h
  have h1 : IntKind.u16.min = 0 := by decide
  have h2 : IntKind.u16.max = 65535 := by decide
  rw [h1, h2] at h
  omega
section
variable {H : Type} {enc : TypeId × Value → H} {P : Program}
/-- A SLICE OF INTEGERS THAT WAS HANDED IN. -/
theorem open_islW {W : World} {r : Reach} {b0 base : Nat} {spare : Nat → Bool} {held : Bool} {t e : TypeId} {v : Value} {d : DataW H} {p : List MemPlace} (ht : P.underlying t = some (.slice e)) (he : P.underlying e = some (.int .i64))
    (hce : P.cellsOf e = 1) (hv : Value.okWide P W r b0 t v) (h : DataW.Trod enc P W base spare held t v d p) :
    ∃ (x : SV) (s : List Int), v = sv x ∧ (∀ n ∈ s, okI n) ∧ ∃ G : Nat → Prop, SlOk W G 1 eI (sv x) s ∧ ∀ b, G b → b < W.heap.size := by
  have hv' : Cell.ok P W r b0 t v := by
    have : Cell.okWide P W r b0 t v := by simpa [Value.okWide, ht] using hv
    simpa [Cell.okWide, ht] using this
  obtain ⟨va, vn, vc, rfl⟩ : ∃ a n c, v = .slice a n c := by
    cases v with
    | slice a n c => exact ⟨a, n, c, rfl⟩
    | _ => simp [Cell.ok, ht] at hv'
  obtain ⟨fuel, hf⟩ := h
  rcases open_ints ht he hce hf with ⟨hc, -⟩ | ⟨a, len, cap, zs, hc, -, h1, h2, h3, -, h5, h6⟩
  · simp [Value.cells] at hc
    obtain ⟨rfl, rfl, rfl⟩ := hc
    refine ⟨⟨none, 0, 0⟩, [], rfl, by simp, fun _ => False, ⟨0, by simp, by unfold maxLen; omega, .inl ⟨rfl, fun _ h => h, rfl⟩⟩, fun _ h => h.elim⟩
  · simp [Value.cells] at hc
    obtain ⟨rfl, rfl, rfl⟩ := hc
    have hh : W.has P r b0 a e vc := by
      simp [Cell.ok, ht] at hv'
      exact hv'.2.2
    obtain ⟨hs, hb⟩ := has_lt hh
    obtain ⟨ab, ao, asp⟩ := a
    dsimp only at hs hb
    subst hs
    have hzl : vn ≤ zs.length := by split at h3 <;> omega
    have htl : (zs.take vn).length = vn := by rw [List.length_take]; omega
    refine ⟨⟨some ⟨ab, ao, none⟩, vn, vc⟩, zs.take vn, rfl, fun n hn => i64_bd (h6 n (List.mem_of_mem_take hn)), fun b => b = ab, ⟨vc, by omega, h2, .inr ⟨ab, ao, by rw [htl]; rfl, rfl, ?_⟩⟩, fun b hb' => hb' ▸ hb⟩
    intro j u hj
    have hfm : (zs.take vn).flatMap eI = (zs.take vn).map (Value.int .i64) := by
      induction zs.take vn with
      | nil => rfl
      | cons x xs ih => simp [eI, ih]
    rw [hfm, List.getElem?_map] at hj
    have hjl : j < vn := by
      rcases Nat.lt_or_ge j vn with h | h
      · exact h
      · rw [List.getElem?_eq_none (by omega)] at hj; simp at hj
    have := h5 j (by omega)
    rw [List.getElem?_take, if_pos hjl, List.getElem?_eq_getElem (by omega)] at hj
    rw [List.getD_eq_getElem?_getD, List.getElem?_eq_getElem (by omega)] at this
    simp at hj this
    rw [← hj, ← this]
    unfold Addr.add
    split
    · subst_vars; rfl
    · rfl
/-- A SLICE OF INTEGERS THAT WAS HANDED IN. -/
theorem open_uslW {W : World} {r : Reach} {b0 base : Nat} {spare : Nat → Bool} {held : Bool} {t e : TypeId} {v : Value} {d : DataW H} {p : List MemPlace} (ht : P.underlying t = some (.slice e)) (he : P.underlying e = some (.int .u32))
    (hce : P.cellsOf e = 1) (hv : Value.okWide P W r b0 t v) (h : DataW.Trod enc P W base spare held t v d p) :
    ∃ (x : SV) (s : List Int), v = sv x ∧ (∀ n ∈ s, oW n) ∧ ∃ G : Nat → Prop, SlOk W G 1 eU (sv x) s ∧ ∀ b, G b → b < W.heap.size := by
  have hv' : Cell.ok P W r b0 t v := by
    have : Cell.okWide P W r b0 t v := by simpa [Value.okWide, ht] using hv
    simpa [Cell.okWide, ht] using this
  obtain ⟨va, vn, vc, rfl⟩ : ∃ a n c, v = .slice a n c := by
    cases v with
    | slice a n c => exact ⟨a, n, c, rfl⟩
    | _ => simp [Cell.ok, ht] at hv'
  obtain ⟨fuel, hf⟩ := h
  rcases open_ints ht he hce hf with ⟨hc, -⟩ | ⟨a, len, cap, zs, hc, -, h1, h2, h3, -, h5, h6⟩
  · simp [Value.cells] at hc
    obtain ⟨rfl, rfl, rfl⟩ := hc
    refine ⟨⟨none, 0, 0⟩, [], rfl, by simp, fun _ => False, ⟨0, by simp, by unfold maxLen; omega, .inl ⟨rfl, fun _ h => h, rfl⟩⟩, fun _ h => h.elim⟩
  · simp [Value.cells] at hc
    obtain ⟨rfl, rfl, rfl⟩ := hc
    have hh : W.has P r b0 a e vc := by
      simp [Cell.ok, ht] at hv'
      exact hv'.2.2
    obtain ⟨hs, hb⟩ := has_lt hh
    obtain ⟨ab, ao, asp⟩ := a
    dsimp only at hs hb
    subst hs
    have hzl : vn ≤ zs.length := by split at h3 <;> omega
    have htl : (zs.take vn).length = vn := by rw [List.length_take]; omega
    refine ⟨⟨some ⟨ab, ao, none⟩, vn, vc⟩, zs.take vn, rfl, fun n hn => u32_bd (h6 n (List.mem_of_mem_take hn)), fun b => b = ab, ⟨vc, by omega, h2, .inr ⟨ab, ao, by rw [htl]; rfl, rfl, ?_⟩⟩, fun b hb' => hb' ▸ hb⟩
    intro j u hj
    have hfm : (zs.take vn).flatMap eU = (zs.take vn).map (Value.int .u32) := by
      induction zs.take vn with
      | nil => rfl
      | cons x xs ih => simp [eU, ih]
    rw [hfm, List.getElem?_map] at hj
    have hjl : j < vn := by
      rcases Nat.lt_or_ge j vn with h | h
      · exact h
      · rw [List.getElem?_eq_none (by omega)] at hj; simp at hj
    have := h5 j (by omega)
    rw [List.getElem?_take, if_pos hjl, List.getElem?_eq_getElem (by omega)] at hj
    rw [List.getD_eq_getElem?_getD, List.getElem?_eq_getElem (by omega)] at this
    simp at hj this
    rw [← hj, ← this]
    unfold Addr.add
    split
    · subst_vars; rfl
    · rfl
theorem cell_addr {w : World} {a : Addr} {u : Value} (h : w.cell? a = some u) : a.spot = none ∧ a.block < w.heap.size := by
  unfold World.cell? at h
  cases hb : w.heap[a.block]? with
  | none => rw [hb] at h; simp at h
  | some o =>
    have hlt : a.block < w.heap.size := (Array.getElem?_eq_some_iff.1 hb).1
    rw [hb] at h
    cases o with
    | cells c e z =>
      dsimp only at h
      refine ⟨?_, hlt⟩
      cases hs : a.spot with
      | none => rfl
      | some q => rw [hs] at h; simp at h
    | _ => simp at h
/-- A list, element by element. -/
theorem open_gen {α : Type} {sz : Nat} {ec : α → List Value} {Ok : α → Prop} (a0 : α) (hlen : ∀ x, (ec x).length = sz) {W : World} {r : Reach} {b0 base : Nat} {held : Bool} {t e : TypeId} {v : Value} {d : DataW H} {p : List MemPlace} (ht : P.underlying t = some (.slice e)) (hce : P.cellsOf e = sz)
    (hv : Value.okWide P W r b0 t v) (h : DataW.Trod enc P W base (fun _ => true) held t v d p) (hE : ∀ n cs y, DataW.trod enc P W base (fun _ => true) held n e cs = some y → ∃ q : α, Ok q ∧ cs = ec q) :
    ∃ (x : SV) (s : List α), v = sv x ∧ (∀ q ∈ s, Ok q) ∧ ∃ G : Nat → Prop, SlOk W G sz ec (sv x) s ∧ ∀ b, G b → b < W.heap.size := by
  have hv' : Cell.ok P W r b0 t v := by
    have : Cell.okWide P W r b0 t v := by simpa [Value.okWide, ht] using hv
    simpa [Cell.okWide, ht] using this
  obtain ⟨va, vn, vc, rfl⟩ : ∃ a n c, v = .slice a n c := by
    cases v with
    | slice a n c => exact ⟨a, n, c, rfl⟩
    | _ => simp [Cell.ok, ht] at hv'
  obtain ⟨fuel, hf⟩ := h
  rcases DataW.trod_slice ht hf with ⟨hc, -⟩ | ⟨a, len, cap, elems, rest, n, -, hc, -, h1, h2, h3, h4, h5, -, -⟩
  · simp [Value.cells] at hc
    obtain ⟨rfl, rfl, rfl⟩ := hc
    exact ⟨⟨none, 0, 0⟩, [], rfl, by simp, fun _ => False, ⟨0, by simp, by unfold maxLen; omega, .inl ⟨rfl, fun _ h => h, rfl⟩⟩, fun _ h => h.elim⟩
  · simp [Value.cells] at hc
    obtain ⟨rfl, rfl, rfl⟩ := hc
    have hh : W.has P r b0 a e vc := by
      simp [Cell.ok, ht] at hv'
      exact hv'.2.2
    obtain ⟨hs, hb⟩ := has_lt hh
    obtain ⟨ab, ao, asp⟩ := a
    dsimp only at hs hb
    subst hs
    have hq : ∀ i, i < vn → ∃ q : α, Ok q ∧ ∀ o u, (ec q)[o]? = some u → W.cell? ⟨ab, ao + (i * sz + o), none⟩ = some u := by
      intro i hi
      have h6 := h5 i hi
      rw [hce, List.getElem?_eq_getElem (by omega)] at h6
      cases hcs : W.cells? base ((⟨ab, ao, none⟩ : Addr).add (i * sz)) sz with
      | none => rw [hcs] at h6; simp at h6
      | some cs =>
        rw [hcs] at h6
        obtain ⟨q, hq1, hq2⟩ := hE n cs _ h6
        obtain ⟨_, hl, hcell⟩ := World.cells?_some hcs
        refine ⟨q, hq1, fun o u ho => ?_⟩
        have ho' : o < sz := by
          rw [← hlen q]
          rcases Nat.lt_or_ge o (ec q).length with h | h
          · exact h
          · rw [List.getElem?_eq_none (by omega)] at ho; cases ho
        have h7 := hcell o ho'
        rw [add_lit', add_lit'] at h7
        rw [show ao + (i * sz + o) = ao + i * sz + o by omega, h7, hq2]
        exact ho
    obtain ⟨f, hf1, hf2⟩ : ∃ f : Nat → α, (∀ i, i < vn → Ok (f i)) ∧ ∀ i, i < vn → ∀ o u, (ec (f i))[o]? = some u → W.cell? ⟨ab, ao + (i * sz + o), none⟩ = some u := by
      refine ⟨fun i => if h : i < vn then Classical.choose (hq i h) else a0, fun i hi => ?_, fun i hi => ?_⟩
      · simp only [hi, dif_pos]
        exact (Classical.choose_spec (hq i hi)).1
      · simp only [hi, dif_pos]
        exact (Classical.choose_spec (hq i hi)).2
    have hll : ((List.range vn).map f).length = vn := by simp
    refine ⟨⟨some ⟨ab, ao, none⟩, vn, vc⟩, (List.range vn).map f, rfl, fun q hq => ?_, fun b => b = ab, ⟨vc, by rw [hll]; exact h2, h3, .inr ⟨ab, ao, by rw [hll]; rfl, rfl, fun j u hj => ?_⟩⟩, fun b hb' => hb' ▸ hb⟩
    · obtain ⟨i, hi, rfl⟩ := List.mem_map.1 hq
      exact hf1 i (List.mem_range.1 hi)
    · rcases Nat.eq_zero_or_pos sz with hz | hz
      · have : ((List.range vn).map f).flatMap ec = [] := List.flatMap_eq_nil_iff.2 fun x _ => List.eq_nil_of_length_eq_zero (by rw [hlen, hz])
        rw [this] at hj
        simp at hj
      · have hjl : j < vn * sz := by
          have := flatMap_len hlen ((List.range vn).map f)
          rcases Nat.lt_or_ge j (((List.range vn).map f).flatMap ec).length with h | h
          · rw [this, hll] at h; exact h
          · rw [List.getElem?_eq_none h] at hj; cases hj
        have hi : j / sz < vn := (Nat.div_lt_iff_lt_mul hz).2 hjl
        have ho : j % sz < sz := Nat.mod_lt _ hz
        have hjj : j / sz * sz + j % sz = j := by rw [Nat.mul_comm]; exact Nat.div_add_mod j sz
        have hget : ((List.range vn).map f)[j / sz]? = some (f (j / sz)) := by
          rw [List.getElem?_map, List.getElem?_range hi]
          rfl
        have he : (ec (f (j / sz)))[j % sz]? = some ((ec (f (j / sz)))[j % sz]'(by rw [hlen]; exact ho)) := List.getElem?_eq_getElem _
        have h8 := flatMap_at hlen ((List.range vn).map f) (j / sz) (j % sz) (f (j / sz)) _ hget he
        rw [hjj] at h8
        rw [h8] at hj
        cases hj
        have h9 := hf2 (j / sz) hi (j % sz) _ he
        rw [hjj] at h9
        exact h9
end
end Go.Proofs.Ytdcbbkpdlcojfaa
