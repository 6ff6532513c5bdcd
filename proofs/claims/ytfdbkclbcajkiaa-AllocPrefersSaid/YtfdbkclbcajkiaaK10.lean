/-
  Stores of whole elements, and guards in regions that draw their order. No condition.
-/
import Derived.Test.YtfdbkclbcajkiaaK9
namespace Go.Proofs.Ytfdbkclbcajkiaa
set_option linter.unusedSimpArgs false
set_option linter.unusedVariables false
open Go.RowKit

section
variable {P : Program} {N : Nat} {w0 : World} {M H : Nat → Prop} {E : Env} {Γ R : Ctx} {Q : Exit → Act → World → Prop}
variable {ops : Array Oper} {rest : List Oper} {T : TypeId} {ps : String} {af : Array Edge} {d : Nat} {op : Op}

theorem getD_get {α : Type} {xs : List α} {j : Nat} (d : α) (h : j < xs.length) : xs[j]? = some (xs.getD j d) := by
  rw [List.getD_eq_getElem?_getD, List.getElem?_eq_getElem h]; rfl
theorem ms_store_el {α : Type} {S S' : TypeId} {D : TypeDesc} {z : Value} {s bb : Nat} {x y : Operand} {u v : Value} {k i : Nat} {enc : α → List Value} {l : List α} {e e' : α} (ht : TI P S D z s bb) (hx : ev E x = some (.pointer (some ⟨sblk v, soff v + i * s, none⟩))) (hy : ev E y = some u)
    (hk : cget Γ k = some (own S' s enc v l)) (he : ∀ x, (enc x).length = s) (hi : l[i]? = some e) (hus : u.cells.toList = enc e') (h1 : (enc e').all (·.oneCell') = true)
    : MS P N w0 M H E Γ R ⟨none, .store S x y, T, ps, af, none⟩ (X := Unit) (fun _ => True) (fun _ => undef) (fun _ => (k, own S' s enc v (l.set i e')) :: Γ) (fun _ => R) :=
  ms_store_own (o := 0) (us := enc e') ht hx hy hus (he e') h1 hk he hi (by rw [he]; omega) (by
    have h1 := he e
    have h2 := he e'
    simp [h2, ← h1])
theorem r_ms0 {X : Type} {φ : X → Prop} {v : X → Value} {Γ' R' : X → Ctx} {ops : Array Oper} {rest : List Oper} {T : TypeId} {ps : String} {af : Array Edge} {op : Op} (h : MS P N w0 M H E Γ R ⟨none, op, T, ps, af, none⟩ φ v Γ' R')
    (k : ∀ x, φ x → At N w0 M H E (Γ' x) (R' x) (wpList P ops Q rest)) : At N w0 M H E Γ R (wpList P ops Q (⟨none, op, T, ps, af, none⟩ :: rest)) := by
  intro a w hE hC
  unfold wpList
  rw [if_pos (by simp [Region.wanted])]
  left
  exact h a w hE hC _ _ fun x w' h1 h2 => k x h1 _ _ hE h2
theorem r_store_el {α : Type} {S S' : TypeId} {D : TypeDesc} {z : Value} {s bb : Nat} {x y : Operand} {u v : Value} {k i : Nat} {enc : α → List Value} {l : List α} {e e' : α} (ht : TI P S D z s bb) (hx : ev E x = some (.pointer (some ⟨sblk v, soff v + i * s, none⟩))) (hy : ev E y = some u)
    (hk : cget Γ k = some (own S' s enc v l)) (he : ∀ x, (enc x).length = s) (hi : l[i]? = some e) (hus : u.cells.toList = enc e') (h1 : (enc e').all (·.oneCell') = true)
    (kk : At N w0 M H E ((k, own S' s enc v (l.set i e')) :: Γ) R (wpList P ops Q rest)) : At N w0 M H E Γ R (wpList P ops Q (⟨none, .store S x y, T, ps, af, none⟩ :: rest)) :=
  r_ms0 (ms_store_el ht hx hy hk he hi hus h1) fun _ _ => kk

theorem pick_t {b : Bool} {u v : Value} (hb : b = true) : (bif b then u else v) = u := by rw [hb]; rfl
theorem pick_f {b : Bool} {u v : Value} (hb : b = false) : (bif b then u else v) = v := by rw [hb]; rfl
theorem prig_y {l : List Oper} {V : Vals} {i d gi t : Nat} {c b : Bool} {v : Value} {op : Op} {T : TypeId} {ps : String} {af : Array Edge} (ho : l[i]? = some ⟨some d, op, T, ps, af, some (gi, c)⟩) (hi : gslot l gi = some t) (ht : eget (vpre (preds ⟨some d, op, T, ps, af, some (gi, c)⟩) V ++ E) t = some (.bool b)) (hb : b = c)
    (h : PR P N w0 M H (vpre (preds ⟨some d, op, T, ps, af, some (gi, c)⟩) V ++ E) Γ R op v) : PRi P N w0 M H E Γ R l V i d v :=
  ⟨_, ho, rfl, fun a w hE hC => .inl ⟨by simp [Region.wanted, hE.yield hi ht, hb], h T ps af a w hE hC _ _⟩⟩
theorem prig_n {l : List Oper} {V : Vals} {i d gi t : Nat} {c b : Bool} {op : Op} {T : TypeId} {ps : String} {af : Array Edge} (ho : l[i]? = some ⟨some d, op, T, ps, af, some (gi, c)⟩) (hi : gslot l gi = some t) (ht : eget (vpre (preds ⟨some d, op, T, ps, af, some (gi, c)⟩) V ++ E) t = some (.bool b)) (hb : b = !c) :
    PRi P N w0 M H E Γ R l V i d undef :=
  ⟨_, ho, rfl, fun a w hE hC => .inr ⟨by subst hb; cases c <;> simp [Region.wanted, hE.yield hi ht], rfl⟩⟩

/-- A changing operation under a guard that holds. -/
theorem stg_memg {l : List Oper} {V : Vals} {C : List Nat} (is : List Nat) {I : Vals} (c : Nat) (C' Jx : List Nat) {X : Type} {φ : X → Prop} {v : X → Value} {Γ' R' : X → Ctx} {d gi t : Nat} {cc b : Bool} {op : Op} {T : TypeId} {ps : String} {af : Array Edge} (J' : X → Vals) (hI0 : vpick is V = I) (hst : stOk N E V = true) (hI : PRs P N w0 M H E Γ R l V I) (hcov : covOk V is C = true)
    (hcls : clsOk l (vidx V ++ C) (some c) = true) (ho : l[c]? = some ⟨some d, op, T, ps, af, some (gi, cc)⟩) (hgi : gslot l gi = some t) (hgt : eget (vpre (preds ⟨some d, op, T, ps, af, some (gi, cc)⟩) V ++ E) t = some (.bool b)) (hb : b = cc) (hd : Nat.blt d N = true) (hdE : eget E d = none) (hdV : inB (vslots V) d = false) (hcV : inB (vidx V ++ C) c = false)
    (hcl : clOk l C c [] C' = true) (hCC0 : C.all (inB C') = true) (hJ : ∀ x, φ x → vidx (J' x) = Jx) (hJx : Jx.all (fun j => !(inB (vidx V ++ C) j) && !(Nat.beq j c)) = true) (hms : MS P N w0 M H (vpre (preds ⟨some d, op, T, ps, af, some (gi, cc)⟩) V ++ E) Γ R ⟨some d, op, T, ps, af, none⟩ φ v Γ' R')
    (k : ∀ x, φ x → Stg P N w0 M H E (Γ' x) (R' x) l Q (J' x ++ (c, d, v x) :: V) C') : Stg P N w0 M H E Γ R l Q V C := by
  have hCC : ∀ j ∈ C, j ∈ C' := fun j hj => inB_mem (List.all_eq_true.1 hCC0 j hj)
  refine stg_step is hI0 hst hI hcov (some c) hcls (fun D a w hD hS => ?_) fun k' hk' ord D a w o' hio hDk hpr hrest hS => ?_
  · have := hS.done c (hD c (List.getElem?_eq_some_iff.1 ho).1)
    rw [mem_inB this] at hcV
    cases hcV
  · injection hk' with hk'
    subst hk'
    rw [ho] at hio
    injection hio with hio
    subst hio
    have ho' : l.toArray[c]? = some ⟨some d, op, T, ps, af, some (gi, cc)⟩ := by simpa using ho
    simp only [wpOps, ho']
    have hEp : EOk N (vpre (preds ⟨some d, op, T, ps, af, some (gi, cc)⟩) V ++ E) a := hS.base.vpre fun j d v hj hjp => hS.vals j d v hj (hpr j hjp)
    rw [if_pos (by simp [Region.wanted, hEp.yield hgi hgt, hb])]
    left
    have hlt : d < a.tmps.size := Nat.lt_of_lt_of_le (by simpa using hd) hS.base.size
    refine hms a w hEp hS.ok _ _ fun x w' hφ hC' => ?_
    show wpOps P l.toArray Q ord (a.put (some d) (v x)) w'
    have hclosed : ∀ (j : Nat) (o' : Oper), l[j]? = some o' → (bif Nat.beq j c then true else D j) = true → ∀ k ∈ preds o', (bif Nat.beq k c then true else D k) = true := by
      intro j o' hoj hj q hq
      cases hb : Nat.beq j c with
      | true =>
        have := Nat.eq_of_beq_eq_true hb
        subst this
        rw [ho] at hoj
        injection hoj with hoj
        subst hoj
        simp [hpr q hq]
      | false => rw [hb] at hj; simp [hS.closed j o' hoj hj q hq]
    refine k x hφ ord _ _ w' hrest ⟨fun j hj => ?_, clOk_done (fun i hi => by simp [hS.sure i hi]) (by simp) hclosed C' [] hcl (fun s hs => by simp at hs), hclosed, ⟨hS.base.defers, by simpa [Act.put] using hS.base.size, fun t u ht => ?_⟩, fun j e u hj hjD => ?_, hC'⟩
    · rw [vidx_app]
      show j ∈ vidx (J' x) ++ (c :: vidx V) ++ C'
      cases hb : Nat.beq j c with
      | true => rw [Nat.eq_of_beq_eq_true hb]; simp
      | false =>
        rw [hb] at hj
        rcases List.mem_append.1 (hS.done j hj) with h | h
        · simp [h]
        · have := hCC j h
          simp [this]
    · simp only [Act.put, Array.getElem?_setIfInBounds]
      have hne : d ≠ t := fun e => by subst e; rw [hdE] at ht; cases ht
      rw [if_neg hne]
      exact hS.base.slot t u ht
    · simp only [Act.put, Array.getElem?_setIfInBounds]
      rcases List.mem_append.1 hj with hj | hj
      · exfalso
        have hjx : j ∈ Jx := by rw [← hJ x hφ]; exact vidx_mem.2 ⟨e, u, hj⟩
        have h6 := List.all_eq_true.1 hJx j hjx
        simp only [Bool.and_eq_true, Bool.not_eq_true'] at h6
        rw [h6.2] at hjD
        have := mem_inB (hS.done j hjD)
        rw [this] at h6
        simp at h6
      · rcases List.mem_cons.1 hj with e' | e'
        · cases e'
          simp [hlt]
        · have hne : d ≠ e := fun h => by
            subst h
            rw [mem_inB (vslots_mem e')] at hdV
            cases hdV
          rw [if_neg hne]
          cases hb : Nat.beq j c with
          | true =>
            have := Nat.eq_of_beq_eq_true hb
            subst this
            rw [mem_inB (List.mem_append_left _ (vidx_mem.2 ⟨e, u, e'⟩))] at hcV
            cases hcV
          | false => rw [hb] at hjD; exact hS.vals j e u e' hjD
end
end Go.Proofs.Ytfdbkclbcajkiaa
