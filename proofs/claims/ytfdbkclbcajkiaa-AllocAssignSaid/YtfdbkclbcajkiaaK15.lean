/-
  Appending where the source may be a part of the destination, and owned sub-slices. No condition.
-/
import Derived.Test.YtfdbkclbcajkiaaK14
namespace Go.Proofs.Ytfdbkclbcajkiaa
set_option linter.unusedSimpArgs false
set_option linter.unusedVariables false
open Go.RowKit

section
variable {P : Program} {N : Nat} {w0 : World} {M H : Nat → Prop} {E : Env} {Γ R : Ctx} {Q : Exit → Act → World → Prop}
variable {ops : Array Oper} {rest : List Oper} {T : TypeId} {ps : String} {af : Array Edge} {d : Nat} {op : Op}

/-- The slice v can be read, and holds l. -/
def SlS {α : Type} (w0 : World) (M H : Nat → Prop) (Γ R : Ctx) (s : Nat) (enc : α → List Value) (v : Value) (l : List α) : Prop := ∀ w, COk w0 M H Γ R w → ∃ G, SlOk w G s enc v l
theorem SlS.of {α : Type} {s : Nat} {enc : α → List Value} {v : Value} {l : List α} (h : HasSl Γ R s enc v l) : SlS w0 M H Γ R s enc v l := fun _ hC => h.ok hC
theorem SlS.lo {α : Type} {s j : Nat} {enc : α → List Value} {v : SV} {l : List α} (h : SlS w0 M H Γ R s enc (sv v) l) (he : ∀ x, (enc x).length = s) (hj : j ≤ l.length) : SlS w0 M H Γ R s enc (sv (loS v j s)) (l.drop j) := fun w hC =>
  let ⟨G, hG⟩ := h w hC
  ⟨G, sl_lo he hj hG⟩
theorem SlS.hi {α : Type} {s j : Nat} {enc : α → List Value} {v : SV} {l : List α} (h : SlS w0 M H Γ R s enc (sv v) l) (hj : j ≤ l.length) : SlS w0 M H Γ R s enc (sv (hiS v j)) (l.take j) := fun w hC =>
  let ⟨G, hG⟩ := h w hC
  ⟨G, sl_hi hj hG⟩
/-- The first elements of an owned slice are an owned slice. -/
theorem own_hi {α : Type} {U s j : Nat} {enc : α → List Value} (he : ∀ x, (enc x).length = s) {v : SV} {l : List α} (hj : j ≤ l.length) : ∀ (w : World) (G : Nat → Prop), (own U s enc (sv v) l).pred w G → (own U s enc (sv (hiS v j)) (l.take j)).pred w G := fun w G ⟨h1, h2, h3⟩ => by
  have hfl := flatK_len he
  have ht : (l.take j).length = j := by rw [List.length_take]; omega
  obtain ⟨va, vn, vc⟩ := v
  rcases h3 with ⟨hv, hn⟩ | ⟨g, cap, cur, hv, hb, hg, hnc, hcm, hcs, htk⟩
  · simp [sv] at hv
    obtain ⟨rfl, rfl, rfl⟩ := hv
    have hl : l = [] := List.eq_nil_of_length_eq_zero hn
    subst hl
    have hj0 : j = 0 := by simpa using hj
    subst hj0
    exact ⟨h1, by simp, .inl ⟨by simp [hiS, sv], by simp⟩⟩
  · simp [sv] at hv
    obtain ⟨rfl, rfl, rfl⟩ := hv
    refine ⟨h1, by rw [hfl], .inr ⟨g, vc, cur, by rw [ht]; rfl, hb, hg, by omega, hcm, hcs, ?_⟩⟩
    have e : l.flatMap enc = (l.take j).flatMap enc ++ (l.drop j).flatMap enc := by rw [← List.flatMap_append, List.take_append_drop]
    have hjs : j * s ≤ l.length * s := Nat.mul_le_mul_right _ hj
    rw [ht, show cur.toList.take (j * s) = (cur.toList.take (l.length * s)).take (j * s) by rw [List.take_take, Nat.min_eq_left hjs], htk, e, List.take_left' (by rw [hfl, ht])]
theorem own_id {α : Type} {U s : Nat} {enc : α → List Value} {v : Value} {l : List α} : ∀ (w : World) (G : Nat → Prop), (own U s enc v l).pred w G → (own U s enc v l).pred w G := fun _ _ h => h
theorem r_appendG {α : Type} {S U : TypeId} {D : TypeDesc} {z : Value} {s bb : Nat} {enc : α → List Value} {x y : Operand} {v v2 v0 : Value} {l l2 l0 : List α} (k : Nat) (hS : P.underlying S = some (.slice U)) (hU : TI P U D z s bb) (hzs : z.cells.size = s) (hs0 : 0 < s) (he : ∀ x, (enc x).length = s) (h1 : ∀ x, (enc x).all (·.oneCell') = true)
    (hx : ev E x = some v) (hy : ev E y = some v2) (hk : cget Γ k = some (own U s enc v0 l0)) (hown : ∀ w G, (own U s enc v0 l0).pred w G → (own U s enc v l).pred w G) (h2 : SlS w0 M H Γ R s enc v2 l2) (hm : (l.length + l2.length) * bb ≤ 140737488355328) (hm' : l.length + l2.length ≤ maxLen)
    (hd : Nat.blt d N = true) (kk : ∀ v' : SV, At N w0 M H ((d, sv v') :: E) ((k, own U s enc (sv v') (l ++ l2)) :: Γ) R (wpList P ops Q rest)) : At N w0 M H E Γ R (wpList P ops Q (⟨some d, .call { callee := .builtin .append, args := #[x, y], argTypes := #[S, S] }, T, ps, af, none⟩ :: rest)) := by
  refine r_gen (X := SV) (fun _ => True) (fun v' => sv v') (fun v' => (k, own U s enc (sv v') (l ++ l2)) :: Γ) (fun _ => R) hd (fun a w hE hC => ?_) fun v' _ => kk v'
  obtain ⟨G0, hp00, hlt0⟩ := hC.reads (.inl hk)
  have hp0 := hown _ _ hp00
  obtain ⟨G2, c, h3, h4, h5⟩ := h2 w hC
  obtain ⟨i, i1, i2, i3, i4⟩ := hU.info
  have hfl : ∀ l' : List α, (l'.flatMap enc).length = l'.length * s := flatMap_len he
  rcases h5 with ⟨rfl, _, rfl⟩ | ⟨b2, o2, rfl, _, hc2⟩
  · obtain ⟨xv, rfl⟩ := ownsRow_sv hp0.2
    refine ⟨xv, w, trivial, ?_, ?_⟩
    · have hr := run_append_owned_none (P := P) w 0 S T U i s hS i1 (sv xv) l.length _ hp0.2
      simp [execOp, resolve, invoke, builtin, hE.ev hx, hE.ev hy, hr]
    · simp only [List.append_nil]
      exact hC.upd hk fun G hG0 hGlt => ⟨G, hown _ _ hG0, fun b hb => ⟨hGlt b hb, fun _ => hb⟩, Touch.refl _ _⟩
  · obtain ⟨v', w', hr, ho, hg, hn⟩ := run_append_own (P := P) w 0 S T U i z s bb hS i1 i2 i3 i4 hzs hs0 v l.length _ hp0.2 ⟨b2, o2, none⟩ l2.length c (l2.flatMap enc) (hfl l2)
      (fun j u hj => by rw [add_lit']; exact hc2 j u hj) (fun u hu => by obtain ⟨x, _, hxu⟩ := List.mem_flatMap.1 hu; simpa using List.all_eq_true.1 (h1 x) u hxu) hm' hm (Nat.zero_le _)
    obtain ⟨xv, rfl⟩ := ownsRow_sv ho
    refine ⟨xv, w', trivial, ?_, ?_⟩
    · simp [execOp, resolve, invoke, builtin, hE.ev hx, hE.ev hy, hr]
    · refine hC.upd hk fun G hG0 hGlt => by
        have hG := hown _ _ hG0
        refine ⟨fun b => (sv xv).ownBlock = some b, ⟨fun x => Iff.rfl, ?_⟩, fun b hb => ⟨(ho.lt b hb).2, fun hlt => ?_⟩, ⟨hg.os, hg.tape, hg.output, hg.size, fun i hi hne => hg.block i hi (fun e => hne ((hG.1 i).2 e.symm))⟩⟩
        · rw [List.length_append, List.flatMap_append]; exact ho
        · rcases hp0.2.2 with ⟨rfl, hl0⟩ | ⟨g, cap, cur, rfl, hbg, hgg, hnc, hcm, hcs, htake⟩
          · exfalso
            have hl : l = [] := List.eq_nil_of_length_eq_zero hl0
            subst hl
            by_cases hz : l2.length = 0
            · have hl2 : l2 = [] := List.eq_nil_of_length_eq_zero hz
              subst hl2
              have := (hn.2 ⟨rfl, rfl⟩)
              rw [this] at hb
              simp [Value.ownBlock] at hb
            · have hr2 := run_append_nil (P := P) w S T U i z hS i1 i2 ⟨b2, o2, none⟩ l2.length c (l2.flatMap enc) (by rw [hfl, i3]) (fun j u hj => by rw [add_lit']; exact hc2 j u hj) (by simpa using Nat.pos_of_ne_zero hz) (by simp only [maxLen] at hm'; simp at hm'; omega) (by rw [i4]; simp at hm; omega)
              rw [hr2] at hr
              injection hr with hr3 hr4
              replace hb : (sv xv).ownBlock = some b := hb
              rw [← hr3] at hb
              simp [Value.ownBlock] at hb
              omega
          · by_cases hroom : l.length + l2.length ≤ cap
            · have hfit : l.length * i.size + (l2.flatMap enc).length ≤ cur.size := by rw [hfl, hcs, i3, ← Nat.add_mul]; exact Nat.mul_le_mul_right _ hroom
              have hr2 := run_append_room (P := P) w S T U i hS i1 g l.length cap cur hgg ⟨b2, o2, none⟩ l2.length c (l2.flatMap enc) (by rw [hfl, i3]) (fun j u hj => by rw [add_lit']; exact hc2 j u hj) (fun u hu => by obtain ⟨x, _, hxu⟩ := List.mem_flatMap.1 hu; simpa using List.all_eq_true.1 (h1 x) u hxu) hroom hfit
              rw [hr2] at hr
              injection hr with hr3 hr4
              replace hb : (sv xv).ownBlock = some b := hb
              rw [← hr3] at hb
              simp [Value.ownBlock] at hb
              subst hb
              exact (hG.1 g).2 rfl
            · exfalso
              have holds := hp0.2.cells (g := g) rfl
              have hr2 := run_append_grow (P := P) w S T U i z hS i1 i2 ⟨g, 0, none⟩ l.length cap (l.flatMap enc) (by rw [hfl, i3]) holds ⟨b2, o2, none⟩ l2.length c (l2.flatMap enc) (by rw [hfl, i3]) (fun j u hj => by rw [add_lit']; exact hc2 j u hj) (by omega) (by simp only [maxLen] at hm'; omega) (growslice_fits (by omega) (by rw [i4]; exact hm))
              rw [hr2] at hr
              injection hr with hr3 hr4
              replace hb : (sv xv).ownBlock = some b := hb
              rw [← hr3] at hb
              simp [Value.ownBlock] at hb
              omega
end
end Go.Proofs.Ytfdbkclbcajkiaa
