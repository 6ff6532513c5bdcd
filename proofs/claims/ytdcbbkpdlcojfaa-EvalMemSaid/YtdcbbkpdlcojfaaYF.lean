/-
  Rules that the logic lacked: bytes to a string (also of an empty list), append of a string to bytes, slices with an offset that are owned, an array as a slice. No condition.
-/
import Derived.Test.YtdcbbkpdlcojfaaYB
namespace Go.Proofs.Ytdcbbkpdlcojfaa
set_option linter.unusedSimpArgs false
set_option linter.unusedVariables false
open Go.RowKit

theorem run_slice_string_lh' {P : Program} (w : World) (t : TypeId) (s : ByteArray) (ht : P.underlying t = some .string) (kl kh : IntKind) (l h : Int) (h0 : 0 ≤ l) (h1 : l ≤ h) (h2 : h ≤ s.size) :
    (Instr.slice t (.string s) (some (.int kl l)) (some (.int kh h)) none).run P w = .ok (.string (s.extract l.toNat h.toNat)) w := by
  have eh : (h.toNat : Int) = h := Int.toNat_of_nonneg (by omega)
  simp [Instr.slice, run_underlying ht, Instr.sliceBounds, run_sliceBound, sliced, *, eh, (by omega : 0 ≤ l), (by omega : 0 ≤ h)]
section
variable {P : Program} {N : Nat} {w0 : World} {M H : Nat → Prop} {E : Env} {Γ R : Ctx} {Q : Exit → Act → World → Prop}
variable {ops : Array Oper} {rest : List Oper} {T : TypeId} {ps : String} {af : Array Edge} {d : Nat} {op : Op}
theorem flat_eU8 (l : List Int) : l.flatMap eU8 = l.map (Value.int .u8) := by
  induction l with
  | nil => rfl
  | cons y ys ih => simp [eU8, ih]
theorem p_b2sE {S D U : TypeId} {x : Operand} {v : SV} {l : List Int} (hS : P.underlying S = some (.slice U)) (hU : P.underlying U = some (.int .u8)) (hD : P.underlying D = some .string) (hx : ev E x = some (sv v)) (hs : SlS w0 M H Γ R 1 eU8 (sv v) l) :
    PR P N w0 M H E Γ R (.convert S D x) (.string (ofI l)) := fun _ _ _ a w hE hC _ _ => by
  obtain ⟨G, c, h1, h2, h3⟩ := hs w hC
  rcases h3 with ⟨rfl, _, hv⟩ | ⟨b, o, hv, _, hc⟩
  · simp [execOp, hE.ev hx, hv, run_convert_bytes_string w S D U _ _ _ hS hU hD, ofI, Conv.bytesToString]
  · rw [flat_eU8] at hc
    have hld := run_loadCells_list (P := P) w ⟨b, o, none⟩ (l.map (Value.int .u8)) (fun j u hj => by rw [add_lit']; exact hc j u hj)
    rw [List.length_map] at hld
    have := run_bytesToString (P := P) w ⟨b, o, none⟩ l.length c l hld
    simp [execOp, hE.ev hx, hv, run_convert_bytes_string w S D U _ _ _ hS hU hD, this, ofI]

/-! ### Append of a string -/
def strV (s : ByteArray) : List Value := (bytesI s).map (Value.int .u8)
theorem strV_len (s : ByteArray) : (strV s).length = s.size := by unfold strV; rw [List.length_map, bytesI_len]
theorem run_firstCells_str (w : World) (s : ByteArray) : (Builtin.firstCells 1 s.size (.string s)).run P w = .ok (strV s).toArray w := by
  have hx : (Array.map (fun b : UInt8 => Value.int IntKind.u8 (b.toNat : Int)) s.data).extract 0 s.size = Array.map (fun b : UInt8 => Value.int IntKind.u8 (b.toNat : Int)) s.data := by
    have hs : s.size = (Array.map (fun b : UInt8 => Value.int IntKind.u8 (b.toNat : Int)) s.data).size := by rw [Array.size_map]; rfl
    rw [hs, Array.extract_size]
  simp [Builtin.firstCells, hx, strV, bytesI]
  apply Array.ext'
  simp
theorem run_append_own_str (w : World) (t u ty e : TypeId) (i : TypeInfo) (z : Value) (ht : P.underlying t = some (.slice e)) (hu : P.underlying u = some .string) (hi : P.info? e = some i) (hz : i.zero = some z)
    (hsize : i.size = 1) (hby : i.bytes = 1) (hzs : z.cells.size = 1) (v : Value) (n : Nat) (xs : List Value) (hown : w.ownsRow 0 e 1 v n xs) (s : ByteArray) (h63 : n + s.size ≤ 1000000) :
    ∃ v' w', (Builtin.append_ #[t, u] ty #[v, .string s]).run P w = .ok v' w' ∧ w'.ownsRow 0 e 1 v' (n + s.size) (xs ++ strV s) ∧ w.grownBy w' v.ownBlock ∧ (∀ b, v'.ownBlock = some b → b < w.heap.size → v.ownBlock = some b) := by
  have hlen : (xs ++ strV s).length = (n + s.size) * 1 := by rw [List.length_append, hown.1, strV_len]; omega
  have hml : n + s.size ≤ maxLen := by unfold maxLen; omega
  have grown : ∀ (old : Nat), old < n + s.size → ∀ (row : Option Nat),
      (w.drew.alloc (.cells (xs.toArray ++ (strV s).toArray ++ Builtin.zeroCells z.cells (grownCap w (n + s.size) old e - (n + s.size))) e)).ownsRow 0 e 1
        (.slice (some ⟨w.heap.size, 0, none⟩) (n + s.size) (grownCap w (n + s.size) old e)) (n + s.size) (xs ++ strV s) ∧
      w.grownBy (w.drew.alloc (.cells (xs.toArray ++ (strV s).toArray ++ Builtin.zeroCells z.cells (grownCap w (n + s.size) old e - (n + s.size))) e)) row := by
    intro old ho row
    have hge := grownCap_ge w (n + s.size) old e
    have hcm : grownCap w (n + s.size) old e ≤ maxLen := grownCap_le_maxLen w (n + s.size) old e hml
    refine ⟨⟨hlen, .inr ⟨w.heap.size, _, _, rfl, Nat.zero_le _, heap_alloc_new w.drew _, hge, hcm, ?_, ?_⟩⟩, ⟨rfl, rfl, rfl, by simp, fun k hk _ => by have := heap_alloc_old w.drew (.cells (xs.toArray ++ (strV s).toArray ++ Builtin.zeroCells z.cells (grownCap w (n + s.size) old e - (n + s.size))) e) (r := k) (by simpa using hk); exact this⟩⟩
    · simp only [Array.size_append, List.size_toArray, size_zeroCells, hzs, hown.1, strV_len]
      omega
    · simp only [Array.toList_append, List.append_assoc]
      rw [← List.append_assoc, ← hlen]
      exact List.take_left
  have hf : ∀ w' : World, (Builtin.firstCells 1 s.size (.string s)).run P w' = .ok (strV s).toArray w' := fun w' => run_firstCells_str w' s
  rcases hown.2 with ⟨rfl, rfl⟩ | ⟨g, cap, cur, rfl, hbg, hg, hnc, hcm, hcs, htake⟩
  · have hx : xs = [] := List.eq_nil_of_length_eq_zero (by simpa using hown.1)
    subst hx
    by_cases hm : s.size = 0
    · have hsv : strV s = [] := List.eq_nil_of_length_eq_zero (by rw [strV_len]; exact hm)
      refine ⟨.slice none 0 0, w, ?_, by rw [hsv, hm]; exact World.ownsRow_nil w 0 e 1, ⟨rfl, rfl, rfl, Nat.le_refl _, fun _ _ _ => rfl⟩, fun b hb => by simp [Value.ownBlock] at hb⟩
      have hf' := hf w
      rw [hm] at hf'
      simp [Builtin.append_, run_underlying ht, run_underlying hu, sizeOf, typeInfo, hi, hsize, Builtin.lenOf, hm, hf']
    · have h63' : ¬ (9223372036854775807 < (s.size : Int)) := by omega
      have h48' : ¬ (281474976710656 < Builtin.nextslicecap s.size 0 * i.bytes) := by rw [nextslicecap_zero (by omega), hby]; omega
      have hgr := grown 0 (by omega) (Value.ownBlock (.slice none 0 0))
      simp only [Nat.zero_add, List.nil_append, Array.empty_append] at hgr ⊢
      refine ⟨_, _, ?_, hgr.1, hgr.2, fun b hb hlt => by simp [Value.ownBlock] at hb; omega⟩
      simp [Builtin.append_, run_underlying ht, run_underlying hu, sizeOf, typeInfo, zeroValue, hi, hz, hsize, Builtin.lenOf, hm, h63', h48', Question.forced, run_firstCells_none, hf, newRow, grownCap]
  · have holds : ∀ j u, xs[j]? = some u → w.cell? ((⟨g, 0, none⟩ : Addr).add j) = some u := hown.cells (g := g) rfl
    by_cases hroom : n + s.size ≤ cap
    · have hfit : 0 + n * 1 + 0 + (strV s).length ≤ cur.size := by rw [strV_len, hcs]; omega
      have hst := run_storeCells_at P g (n * 1) e (strV s) 0 cur w hg (by omega) (fun u hu' => by unfold strV at hu'; obtain ⟨y, _, rfl⟩ := List.mem_map.1 hu'; rfl)
      simp only [Nat.add_zero] at hst
      refine ⟨.slice (some ⟨g, 0, none⟩) (n + s.size) cap, w.setRow g (cur.toList.take (n * 1) ++ strV s ++ cur.toList.drop (n * 1 + (strV s).length)).toArray, ?_, ⟨hlen, .inr ⟨g, cap, _, rfl, hbg, setRow_heap w g cur _ e _ hg, hroom, hcm, ?_, ?_⟩⟩, ⟨rfl, rfl, rfl, by simp, fun k _ hk => setRow_other w g k _ (fun e => hk (by simp [Value.ownBlock, e]))⟩, fun b hb _ => hb⟩
      · have h0 : 0 + n * 1 = n * 1 := by omega
        simp [Builtin.append_, run_underlying ht, run_underlying hu, sizeOf, typeInfo, hi, hsize, Builtin.lenOf, hroom, hf, Addr.add_lit]
        simp only [Nat.mul_one] at hst
        simp [hst]
      · simp only [List.size_toArray, List.length_append, List.length_take, List.length_drop, Array.length_toList, strV_len]
        omega
      · rw [htake, ← hlen]
        exact List.take_left
    · have h63' : ¬ (9223372036854775807 < ((n : Int) + (s.size : Int))) := by omega
      have h48' : ¬ (281474976710656 < Builtin.nextslicecap (n + s.size) cap * i.bytes) := by
        have := growslice_fits (need := n + s.size) (old := cap) (bytes := i.bytes) (by omega) (by rw [hby]; omega)
        omega
      have hfo := run_firstCells_some (P := P) w.drew 1 n ⟨g, 0, none⟩ n cap xs hown.1 (by simpa using holds)
      have hgr := grown cap (by omega) (Value.ownBlock (.slice (some ⟨g, 0, none⟩) n cap))
      refine ⟨_, _, ?_, hgr.1, hgr.2, fun b hb hlt => by simp [Value.ownBlock] at hb; omega⟩
      simp [Builtin.append_, run_underlying ht, run_underlying hu, sizeOf, typeInfo, zeroValue, hi, hz, hsize, Builtin.lenOf, hroom, h63', h48', Question.forced, hf, hfo, newRow, grownCap]
      congr 2
      apply Array.ext'
      simp [List.append_assoc]
theorem ms_appendS {S SS U : TypeId} {D : TypeDesc} {z : Value} {x y : Operand} {v : Value} {l : List Int} {s : ByteArray} (k : Nat) (hS : P.underlying S = some (.slice U)) (hSS : P.underlying SS = some .string) (hU : TI P U D z 1 1) (hzs : z.cells.size = 1)
    (hx : ev E x = some v) (hy : ev E y = some (.string s)) (hk : cget Γ k = some (own U 1 eU8 v l)) (hm : l.length + s.size ≤ 1000000)
    : MS P N w0 M H E Γ R ⟨some d, .call { callee := .builtin .append, args := #[x, y], argTypes := #[S, SS] }, T, ps, af, none⟩ (X := SV) (fun _ => True) (fun v' => sv v') (fun v' => (k, own U 1 eU8 (sv v') (l ++ bytesI s)) :: Γ) (fun _ => R) := by
  refine ms_gen fun a w hE hC => ?_
  obtain ⟨G0, hp0, hlt0⟩ := hC.reads (.inl hk)
  obtain ⟨i, i1, i2, i3, i4⟩ := hU.info
  obtain ⟨v', w', hr, ho, hg, hn⟩ := run_append_own_str (P := P) w S SS T U i z hS hSS i1 i2 i3 i4 hzs v l.length _ hp0.2 s hm
  obtain ⟨xv, rfl⟩ := ownsRow_sv ho
  refine ⟨xv, w', trivial, ?_, ?_⟩
  · simp [execOp, resolve, invoke, builtin, hE.ev hx, hE.ev hy, hr]
  · refine hC.upd hk fun G hG hGlt => ⟨fun b => (sv xv).ownBlock = some b, ⟨fun x => Iff.rfl, ?_⟩, fun b hb => ⟨(ho.lt b hb).2, fun hlt => ?_⟩, ⟨hg.os, hg.tape, hg.output, hg.size, fun i hi hne => hg.block i hi (fun e => hne ((hG.1 i).2 e.symm))⟩⟩
    · rw [List.length_append, List.flatMap_append, bytesI_len, flat_eU8 (bytesI s)]; exact ho
    · exact (hG.1 b).2 (hn b hb hlt)
theorem r_appendS {S SS U : TypeId} {D : TypeDesc} {z : Value} {x y : Operand} {v : Value} {l : List Int} {s : ByteArray} (k : Nat) (hS : P.underlying S = some (.slice U)) (hSS : P.underlying SS = some .string) (hU : TI P U D z 1 1) (hzs : z.cells.size = 1)
    (hx : ev E x = some v) (hy : ev E y = some (.string s)) (hk : cget Γ k = some (own U 1 eU8 v l)) (hm : l.length + s.size ≤ 1000000) (hd : Nat.blt d N = true)
    (kk : ∀ v' : SV, At N w0 M H ((d, sv v') :: E) ((k, own U 1 eU8 (sv v') (l ++ bytesI s)) :: Γ) R (wpList P ops Q rest)) : At N w0 M H E Γ R (wpList P ops Q (⟨some d, .call { callee := .builtin .append, args := #[x, y], argTypes := #[S, SS] }, T, ps, af, none⟩ :: rest)) :=
  r_ms (ms_appendS k hS hSS hU hzs hx hy hk hm) hd fun v' _ => kk v'

/-! ### Slices with an offset, of the call's own -/
def ownX {α : Type} (T : TypeId) (e : α → Value) (v : SV) (l : List α) : Asn :=
  ⟨fun w F => (v = nilS ∧ l = [] ∧ ∀ x, ¬ F x) ∨ ∃ g o cap cur, v = ⟨some ⟨g, o, none⟩, l.length, cap⟩ ∧ (∀ x, F x ↔ x = g) ∧ w.heap[g]? = some (.cells cur T (0, 0)) ∧ l.length ≤ cap ∧ cap ≤ maxLen ∧ o + cap ≤ cur.size ∧ (cur.toList.drop o).take l.length = l.map e,
   fun h hs => by
    rcases h with h | ⟨g, o, cap, cur, h1, h2, h3, h4⟩
    · exact .inl h
    · exact .inr ⟨g, o, cap, cur, h1, h2, (hs g ((h2 g).2 rfl)).trans h3, h4⟩⟩
theorem flat_one {α : Type} (e : α → Value) (l : List α) : (l.flatMap fun a => [e a]) = l.map e := by
  induction l with
  | nil => rfl
  | cons y ys ih => simp [ih]
theorem own_ownX {α : Type} {T : TypeId} {e : α → Value} {v : SV} {l : List α} : ∀ (w : World) (G : Nat → Prop), (own T 1 (fun a => [e a]) (sv v) l).pred w G → (ownX T e v l).pred w G := fun w G ⟨h1, h2, h3⟩ => by
  obtain ⟨va, vn, vc⟩ := v
  rcases h3 with ⟨hv, hn⟩ | ⟨g, cap, cur, hv, hb, hg, hnc, hcm, hcs, htk⟩
  · simp [sv] at hv
    obtain ⟨rfl, rfl, rfl⟩ := hv
    exact .inl ⟨rfl, List.eq_nil_of_length_eq_zero hn, fun x hx => by have := (h1 x).1 hx; simp [sv, Value.ownBlock] at this⟩
  · simp [sv] at hv
    obtain ⟨rfl, rfl, rfl⟩ := hv
    refine .inr ⟨g, 0, vc, cur, rfl, fun x => (h1 x).trans (by simp [sv, Value.ownBlock, eq_comm]), hg, hnc, hcm, by omega, ?_⟩
    rw [flat_one, Nat.mul_one] at htk
    simpa using htk
theorem ownX_nil {α : Type} {T : TypeId} {e : α → Value} (w : World) : (ownX T e nilS ([] : List α)).pred w (fun _ => False) := .inl ⟨rfl, rfl, fun _ h => h⟩
theorem ownX_sl {α : Type} {T : TypeId} {e : α → Value} {v : SV} {l : List α} {w : World} {G : Nat → Prop} (h : (ownX T e v l).pred w G) : SlOk w G 1 (fun a => [e a]) (sv v) l := by
  rcases h with ⟨rfl, rfl, h⟩ | ⟨g, o, cap, cur, rfl, h2, h3, h4, h5, h6, h7⟩
  · exact ⟨0, by simp, by unfold maxLen; omega, .inl ⟨rfl, h, rfl⟩⟩
  · refine ⟨cap, h4, h5, .inr ⟨g, o, rfl, (h2 g).2 rfl, fun j u hj => ?_⟩⟩
    rw [flat_one, ← h7, List.getElem?_take] at hj
    split at hj
    · rw [List.getElem?_drop] at hj
      simp only [World.cell?, h3]
      simpa using hj
    · simp at hj
theorem SlS.ofX {α : Type} {T : TypeId} {e : α → Value} {v : SV} {l : List α} {k : Nat} (h : cget Γ k = some (ownX T e v l)) : SlS w0 M H Γ R 1 (fun a => [e a]) (sv v) l := fun w hC => by
  obtain ⟨G, hp, _⟩ := hC.reads (.inl h)
  exact ⟨G, ownX_sl hp⟩
theorem ownX_lo {α : Type} {T : TypeId} {e : α → Value} {v : SV} {l : List α} {j : Nat} (hj : j ≤ l.length) (hl : l ≠ []) : ∀ (w : World) (G : Nat → Prop), (ownX T e v l).pred w G → (ownX T e (loS v j 1) (l.drop j)).pred w G := fun w G h => by
  rcases h with ⟨rfl, rfl, h⟩ | ⟨g, o, cap, cur, rfl, h2, h3, h4, h5, h6, h7⟩
  · exact absurd rfl hl
  · by_cases hc : cap = j
    · refine .inr ⟨g, o, cap - j, cur, ?_, h2, h3, by rw [List.length_drop]; omega, by omega, by omega, ?_⟩
      · simp only [loS, hc, if_true, List.length_drop]
      · have : l.length - j = 0 := by omega
        rw [List.length_drop, this, List.take_zero]
        have : l.drop j = [] := List.drop_eq_nil_of_le (by omega)
        rw [this]; rfl
    · refine .inr ⟨g, o + j, cap - j, cur, ?_, h2, h3, by rw [List.length_drop]; omega, by omega, by omega, ?_⟩
      · simp only [loS, hc, if_false, List.length_drop, Option.map_some, Nat.mul_one, Addr.add]
        by_cases hj0 : j = 0 <;> simp [hj0]
      · rw [List.length_drop, List.map_drop, ← h7, ← List.drop_drop]
        rw [List.drop_take]
theorem ms_appendX {α : Type} {S U : TypeId} {D : TypeDesc} {z : Value} {bb : Nat} {e : α → Value} {x y : Operand} {v : SV} {v2 : Value} {l l2 : List α} (k : Nat) (hS : P.underlying S = some (.slice U)) (hU : TI P U D z 1 bb) (hzs : z.cells.size = 1) (h1 : ∀ x, (e x).oneCell' = true)
    (hx : ev E x = some (sv v)) (hy : ev E y = some v2) (hk : cget Γ k = some (ownX U e v l)) (h2 : HasSl Γ R 1 (fun a => [e a]) v2 l2) (hm : (l.length + l2.length) * bb ≤ 140737488355328) (hm' : l.length + l2.length ≤ maxLen)
    : MS P N w0 M H E Γ R ⟨some d, .call { callee := .builtin .append, args := #[x, y], argTypes := #[S, S] }, T, ps, af, none⟩ (X := SV) (fun _ => True) (fun v' => sv v') (fun v' => (k, ownX U e v' (l ++ l2)) :: Γ) (fun _ => R) := by
  refine ms_gen fun a w hE hC => ?_
  obtain ⟨G0, hp0, hlt0⟩ := hC.reads (.inl hk)
  obtain ⟨G2, c, h3, h4, h5⟩ := h2.ok hC
  obtain ⟨i, i1, i2, i3, i4⟩ := hU.info
  have h63 : ((l.length + l2.length : Nat) : Int) ≤ 9223372036854775807 := by simp only [maxLen] at hm'; omega
  rcases h5 with ⟨rfl, _, rfl⟩ | ⟨b2, o2, rfl, _, hc2⟩
  · refine ⟨v, w, trivial, ?_, ?_⟩
    · rcases hp0 with ⟨rfl, rfl, h⟩ | ⟨g, o, cap, cur, rfl, q2, q3, q4, q5, q6, q7⟩
      · simp [execOp, resolve, invoke, builtin, hE.ev hx, hE.ev hy, Builtin.append_, run_underlying hS, sizeOf, typeInfo, i1, Builtin.lenOf, Builtin.firstCells, sv, nilS]
      · simp [execOp, resolve, invoke, builtin, hE.ev hx, hE.ev hy, Builtin.append_, run_underlying hS, sizeOf, typeInfo, i1, Builtin.lenOf, Builtin.firstCells, sv, q4, storeCells]
    · simp only [List.append_nil]
      exact hC.upd hk fun G hG hGlt => ⟨G, hG, fun b hb => ⟨hGlt b hb, fun _ => hb⟩, Touch.refl _ _⟩
  · rw [flat_one] at hc2
    have hnl : (l2.map e).length = l2.length * i.size := by rw [i3, Nat.mul_one, List.length_map]
    have hnews : ∀ w' : World, (∀ j u, (l2.map e)[j]? = some u → w'.cell? ((⟨b2, o2, none⟩ : Addr).add j) = some u) → (Builtin.firstCells i.size l2.length (.slice (some ⟨b2, o2, none⟩) l2.length c)).run P w' = .ok (l2.map e).toArray w' := fun w' h => run_firstCells_some (P := P) w' i.size l2.length ⟨b2, o2, none⟩ l2.length c (l2.map e) hnl h
    have hc2' : ∀ j u, (l2.map e)[j]? = some u → w.cell? ((⟨b2, o2, none⟩ : Addr).add j) = some u := fun j u hj => by rw [add_lit']; exact hc2 j u hj
    have hall : ∀ u ∈ l2.map e, u.oneCell' = true := fun u hu => by obtain ⟨y, _, rfl⟩ := List.mem_map.1 hu; exact h1 y
    have grown : ∀ (old : Nat), old < l.length + l2.length →
        (ownX U e ⟨some ⟨w.heap.size, 0, none⟩, l.length + l2.length, grownCap w (l.length + l2.length) old U⟩ (l ++ l2)).pred (w.drew.alloc (.cells ((l.map e).toArray ++ (l2.map e).toArray ++ Builtin.zeroCells z.cells (grownCap w (l.length + l2.length) old U - (l.length + l2.length))) U)) (fun x => x = w.heap.size) ∧
        ∀ G, Touch G w (w.drew.alloc (.cells ((l.map e).toArray ++ (l2.map e).toArray ++ Builtin.zeroCells z.cells (grownCap w (l.length + l2.length) old U - (l.length + l2.length))) U)) := by
      intro old ho
      have hge := grownCap_ge w (l.length + l2.length) old U
      have hcm : grownCap w (l.length + l2.length) old U ≤ maxLen := grownCap_le_maxLen w (l.length + l2.length) old U hm'
      refine ⟨.inr ⟨w.heap.size, 0, _, _, by rw [List.length_append], fun x => Iff.rfl, heap_alloc_new w.drew _, by rw [List.length_append]; exact hge, hcm, ?_, ?_⟩, fun G => ⟨rfl, rfl, rfl, by simp, fun k hk _ => ?_⟩⟩
      · simp only [Array.size_append, List.size_toArray, size_zeroCells, hzs, List.length_map]
        omega
      · simp only [Array.toList_append, List.append_assoc, List.drop_zero, List.map_append]
        rw [← List.append_assoc]
        have : (l ++ l2).length = (l.map e ++ l2.map e).length := by simp
        rw [this]
        exact List.take_left
      · have := heap_alloc_old w.drew (.cells ((l.map e).toArray ++ (l2.map e).toArray ++ Builtin.zeroCells z.cells (grownCap w (l.length + l2.length) old U - (l.length + l2.length))) U) (r := k) (by simpa using hk)
        exact this
    rcases hp0 with ⟨rfl, rfl, h⟩ | ⟨g, o, cap, cur, rfl, q2, q3, q4, q5, q6, q7⟩
    · by_cases hm0 : l2.length = 0
      · have hl2 : l2 = [] := List.eq_nil_of_length_eq_zero hm0
        subst hl2
        refine ⟨nilS, w, trivial, ?_, ?_⟩
        · simp [execOp, resolve, invoke, builtin, hE.ev hx, hE.ev hy, Builtin.append_, run_underlying hS, sizeOf, typeInfo, i1, Builtin.lenOf, Builtin.firstCells, sv, nilS, loadCells, loadCellsFrom]
        · exact hC.upd hk fun G hG hGlt => ⟨G, hG, fun b hb => ⟨hGlt b hb, fun _ => hb⟩, Touch.refl _ _⟩
      · have hr := run_append_nil (P := P) w S T U i z hS i1 i2 ⟨b2, o2, none⟩ l2.length c (l2.map e) hnl hc2' (by omega) (by simpa using h63) (by rw [i4]; simp only [List.length_nil, Nat.zero_add] at hm; omega)
        have hgr := grown 0 (by simp; omega)
        simp only [List.length_nil, Nat.zero_add, List.nil_append, List.map_nil, Array.empty_append] at hgr ⊢
        refine ⟨_, _, trivial, ?_, hC.upd hk fun G hG hGlt => ⟨fun x => x = w.heap.size, hgr.1, fun b hb => ⟨by subst hb; simp, fun hlt => by subst hb; omega⟩, hgr.2 G⟩⟩
        simp [execOp, resolve, invoke, builtin, hE.ev hx, hE.ev hy, hr, sv, nilS]
    · by_cases hroom : l.length + l2.length ≤ cap
      · have hst := run_storeCells_at P g (o + l.length) U (l2.map e) 0 cur w q3 (by rw [List.length_map]; omega) hall
        simp only [Nat.add_zero] at hst
        refine ⟨⟨some ⟨g, o, none⟩, l.length + l2.length, cap⟩, w.setRow g (cur.toList.take (o + l.length) ++ l2.map e ++ cur.toList.drop (o + l.length + (l2.map e).length)).toArray, trivial, ?_, hC.upd hk fun G hG hGlt => ⟨G, .inr ⟨g, o, cap, _, by rw [List.length_append], ?_, setRow_heap w g cur _ U _ q3, by rw [List.length_append]; exact hroom, q5, ?_, ?_⟩, fun b hb => ⟨by simpa using hGlt b hb, fun _ => hb⟩, ⟨rfl, rfl, rfl, by simp, fun i hi hne => setRow_other w g i _ ?_⟩⟩⟩
        · simp [execOp, resolve, invoke, builtin, hE.ev hx, hE.ev hy, Builtin.append_, run_underlying hS, sizeOf, typeInfo, i1, i3, Builtin.lenOf, hroom, sv]
          rw [i3] at hnews
          simp [hnews w hc2', Addr.add_lit]
          first
            | simp [hst]
            | (simp [Addr.add, hst])
        · rcases hG with ⟨h0, _, _⟩ | ⟨g', o', cap', cur', e1, e2, _⟩
          · simp [nilS] at h0
          · simp only [SV.mk.injEq, Option.some.injEq, Addr.mk.injEq, and_true, true_and] at e1
            rw [e1.1.1]; exact e2
        · simp only [List.size_toArray, List.length_append, List.length_take, List.length_drop, Array.length_toList, List.length_map]
          omega
        · have hlt : (cur.toList.take (o + l.length)).length = o + l.length := by
            have hcl : cur.toList.length = cur.size := Array.length_toList
            rw [List.length_take]
            omega
          dsimp only
          simp only [List.map_append, List.length_append]
          rw [List.append_assoc, List.drop_append_of_le_length (by rw [hlt]; omega), List.drop_take, show o + l.length - o = l.length by omega, q7, ← List.append_assoc, ← List.map_append]
          rw [show l.length + l2.length = ((l ++ l2).map e).length by simp]
          exact List.take_left
        · rcases hG with ⟨h0, _, _⟩ | ⟨g', o', cap', cur', e1, e2, _⟩
          · simp [nilS] at h0
          · simp only [SV.mk.injEq, Option.some.injEq, Addr.mk.injEq, and_true, true_and] at e1
            intro hig
            exact hne ((e2 i).2 (hig.trans e1.1.1))
      · have holds : ∀ j u, (l.map e)[j]? = some u → w.cell? ((⟨g, o, none⟩ : Addr).add j) = some u := fun j u hj => by
          rw [← q7, List.getElem?_take] at hj
          split at hj
          · rw [List.getElem?_drop] at hj
            rw [add_lit']
            simp only [World.cell?, q3]
            simpa using hj
          · simp at hj
        have hr := run_append_grow (P := P) w S T U i z hS i1 i2 ⟨g, o, none⟩ l.length cap (l.map e) (by rw [List.length_map, i3, Nat.mul_one]) holds ⟨b2, o2, none⟩ l2.length c (l2.map e) hnl hc2' (by omega) h63 (growslice_fits (by omega) (by rw [i4]; exact hm))
        have hgr := grown cap (by omega)
        refine ⟨_, _, trivial, ?_, hC.upd hk fun G hG hGlt => ⟨fun x => x = w.heap.size, hgr.1, fun b hb => ⟨by subst hb; simp, fun hlt => by subst hb; omega⟩, hgr.2 G⟩⟩
        simp [execOp, resolve, invoke, builtin, hE.ev hx, hE.ev hy, hr, sv]
theorem r_appendX {α : Type} {S U : TypeId} {D : TypeDesc} {z : Value} {bb : Nat} {e : α → Value} {x y : Operand} {v : SV} {v2 : Value} {l l2 : List α} (k : Nat) (hS : P.underlying S = some (.slice U)) (hU : TI P U D z 1 bb) (hzs : z.cells.size = 1) (h1 : ∀ x, (e x).oneCell' = true)
    (hx : ev E x = some (sv v)) (hy : ev E y = some v2) (hk : cget Γ k = some (ownX U e v l)) (h2 : HasSl Γ R 1 (fun a => [e a]) v2 l2) (hm : (l.length + l2.length) * bb ≤ 140737488355328) (hm' : l.length + l2.length ≤ maxLen) (hd : Nat.blt d N = true)
    (kk : ∀ v' : SV, At N w0 M H ((d, sv v') :: E) ((k, ownX U e v' (l ++ l2)) :: Γ) R (wpList P ops Q rest)) : At N w0 M H E Γ R (wpList P ops Q (⟨some d, .call { callee := .builtin .append, args := #[x, y], argTypes := #[S, S] }, T, ps, af, none⟩ :: rest)) :=
  r_ms (ms_appendX k hS hU hzs h1 hx hy hk h2 hm hm') hd fun v' _ => kk v'
/-- A part of a string. -/
theorem p_slice_strlh {S : TypeId} {x y z : Operand} {k k' : IntKind} {s : ByteArray} {i j : Int} (hS : P.underlying S = some .string) (hx : ev E x = some (.string s)) (hy : ev E y = some (.int k i)) (hz : ev E z = some (.int k' j)) (h0 : 0 ≤ i) (h1 : i ≤ j) (h2 : j ≤ s.size) : PR P N w0 M H E Γ R (.slice S x (some y) (some z) none) (.string (s.extract i.toNat j.toNat)) :=
  fun _ _ _ a w hE _ _ _ => by
    have h3 := run_sliceAt_string (P := P) w S (.string s) (some (.int k i)) (some (.int k' j)) none hS
    have h4 := run_slice_string_lh' (P := P) w S s hS k k' i j h0 h1 h2
    simp [execOp, hE.ev hx, hE.ev hy, hE.ev hz, h3, h4]
/-! ### An array as a slice -/
theorem p_slice_arr {S U : TypeId} {D : TypeDesc} {z : Value} {s bb n b o : Nat} {x : Operand} (hS : P.underlying S = some (.array n U)) (hU : TI P U D z s bb) (hx : ev E x = some (.pointer (some ⟨b, o, none⟩))) (hn : 0 < n) : PR P N w0 M H E Γ R (.slice S x none none none) (sv ⟨some ⟨b, o, none⟩, n, n⟩) :=
  fun _ _ _ a w hE _ _ _ => by
    have hn0 : ¬ n = 0 := by omega
    simp [execOp, hE.ev hx, Instr.sliceAt, Instr.sureAddr, Instr.slice, run_underlying hS, Instr.sliceBounds, Instr.sliceBound, sv, hU.sizeOf, hn0, Addr.add]
theorem row_sl {α : Type} {b o n : Nat} {S : TypeId} {c : List Value} {enc : α → List Value} {s : Nat} {l : List α} (hl : l.length = n) (hn : n ≤ maxLen) (hc : (c.drop o).take (l.flatMap enc).length = l.flatMap enc) : ∀ w G, (row b S c).pred w G → (∀ b, G b → b < w.heap.size) → ∃ G', (sl s enc (sv ⟨some ⟨b, o, none⟩, n, n⟩) l).pred w G' ∧ ∀ b, G' b → G b := fun w G h _ => by
  refine ⟨G, ⟨n, by omega, hn, .inr ⟨b, o, by rw [hl]; rfl, (h.1 b).2 rfl, fun j u hj => ?_⟩⟩, fun _ hb => hb⟩
  simp only [World.cell?, h.2]
  rw [← hc, List.getElem?_take] at hj
  split at hj
  · rw [List.getElem?_drop] at hj
    simpa using hj
  · simp at hj
end
end Go.Proofs.Ytdcbbkpdlcojfaa
